/- A walk in parts: the body is cut behind some of its statements; each part is carried out by itself, from a state that says no more than the rest wants. -/
import Derived.Test.YtbolipecnhlnnaaGreatDoorTSxY
set_option linter.unusedVariables false
set_option linter.unusedSimpArgs false
open Bool renaming and_eq_true->q2,or_eq_true->q4
open Nat renaming le_of_ble_eq_true->q0,beq->q1,ble->q3,lt_or_ge->q5,le_refl->q6,blt_eq->q7
open Go.Fence renaming wide->q8
namespace Go.Sx
open Go
def Fin (T:Tab) (res:List ResultVar) (ex:List Nat) (r:AV) (H':Hp):Exit->St->Prop:=fun e Z=>match e with
 | .normal =>zhf T res ex r H' Z
 | .ret =>zhf T res ex r H' Z
 | _=>False
structure SemOK (P:Program) (T:Tab) (res:List ResultVar) (ex:List Nat) (r:AV) (H':Hp) (c:Code) (Z:St):Prop where
 sem: ∀(c0:Ctx) (a:Act) (w:World) (Q:Exit->Act->World->Prop),Rel c0 Z a w->(∀e Z a w,Rel c0 Z a w->Fin T res ex r H' e Z->Q e a w)->c.wpIn q8 0 P Q a w
def fnC (T:Tab) (ex:List Nat) (c:Code) (n:Nat) (H:Hp) (A:List AV) (H':Hp) (W:St->Prop):Prop:=
 ziv (A++ye (n-A.length)) fun sl=>zrc (zhw (wc (zd T c)) H) fun hp=>
  match zef (zd T c) (wg A++zee H),zef (zd T c) (keys H),far 0 (keys H),far ex.length (keys H'),yi (zq2 H),zdj (keys H'),qd8 ex&&zdj ex with
  |true,true,true,true,true,true,true=>W ⟨sl,hp⟩
  | _,_,_,_,_,_,_=>False
abbrev RM3:=Bool->St->(St->Prop)->(Nat->St->Prop)->(St->Prop)->Prop
def K3 (n:St->Prop) (e:Nat->St->Prop) (r:St->Prop):Exit->St->Prop:=fun x Z=>match x with
 | .normal =>n Z
 | .exit i=>e i Z
 | .ret =>r Z
 | _=>False
def sSkip:RM3:=fun _ Z n _ _=>n Z
noncomputable def zsl (T:Tab) (C:Con) (_:Nat) (ops:Array Oper) (draw:Bool):RM3:=fun _ Z n _ _=> @Bool.rec (fun _=>Prop)
 (zzc T C ops.toList ops.toList Z fun Z=>xe (zvs ops.toList) Z n)
 (opsS T C ops.toList ops.toList Z fun fps Z=>zxt 0 ops.toList fps=true/\Region.lexB .any ops=true/\xe (zvs ops.toList) Z n) draw
def sSeq (_ _:Code) (iha ihb:RM3):RM3:=fun top Z n e r=>iha top Z (fun Z=>ihb top Z n e r) e r
def qbg (c:Operand) (_ _:Code) (iha ihb:RM3):RM3:=fun top Z n e r=>match zj Z.sl c with
    | .bool t=> @Bool.rec (fun _=>Prop) (ihb top Z n e r) (iha top Z n e r) t
    | .ub p q=>(p->iha top Z n e r)/\(q->ihb top Z n e r)
    | _=>False
def qfe (id:Nat) (_:Code) (ih:RM3):RM3:=fun top Z n e r=>ih top Z n (fun i Z=>match q1 i id with
 |true=>n Z
 |false=>e i Z) r
def qbf (T:Tab) (c:Code) (ih:RM3):RM3:=fun top Z _ e r=> ∃(X:Type) (I:X->Prop) (us:X->List (Nat×AV)) (hu:X->List (Nat×Blk)) (μ:X->Nat) (x₀:X),
 I x₀/\(ze9 (ja c) fun ws=>ze9 (zd T c) fun ds=>zpg ws ds (us x₀) (hu x₀) Z (fun G=>leS Z G))/\
 ∀x,I x->ze9 (ja c) fun ws=>ze9 (zd T c) fun ds=>zpg ws ds (us x) (hu x) Z fun G=>zef (zer G.hp) G.ids=true/\
  ih top G (fun σ'=> ∃x',I x'/\μ x'<μ x/\zpg ws ds (us x') (hu x') Z fun τ'=>leS σ' τ') e r
def zsm (T:Tab) (C:Con) (f:Operand) (ps:Array Tmp) (asg body:Code) (iha ihb:RM3):RM3:=fun top Z n e r=>match top,zj Z.sl f with
    |true,.fn g caps=> ∃(is:List Nat) (X Y:Type) (hb:X->List Blk) (live:X->Bool) (pend:X->Code) (args:Y->List AV) (next:X->Y->X) (x₀ xE:X) (rv:AV) (ib:List Blk),
      qi Z.hp is=hb x₀/\live x₀=true/\rfOk T Z.hp g is caps ib=true/\zef (zd T asg++zd T body) (ze3 is)=true/\(∀x,za6 (hb x)=true/\zca is (hb x)=true)/\(∀y,qb1 (wg (args y))=true)/\
      (∀(l:Nat) (J:X->GJ),(∀x y,live x=true->C.cb l [(zy,.gst (J x))] (args y) (.bool (live (next x y))) [(zy,.gst (J (next x y)))])->
        C.fn g ((zy,.gst (J x₀))::wb (nub (wg caps)) (qi Z.hp (nub (wg caps)))) (.cb l::caps) rv ((zy,.gst (J xE))::wb (nub (wg caps)) ib))/\
      (∀x y,live x=true->zm4 ps.toList (args y) (zkt is Z.sl) fun sl=>
        iha false ⟨sl,zhw (wc (zd T asg++zd T body)) (wb (ze3 is) (hb x))⟩ (fun G=>
         ihb false G (fun G=>live (next x y)=true/\zqy is (hb (next x y)) G) (fun id G=>live (next x y)=false/\pend (next x y)= .exit id/\zqy is (hb (next x y)) G)
          (fun G=>live (next x y)=false/\pend (next x y)= .ret /\zqy is (hb (next x y)) G)) (fun _ _=>False) (fun _=>False))/\
      (match Z with
        |⟨sl,hp⟩=>zbd hp is (hb xE) fun hp=>zbd hp (nub (wg caps)) ib fun hp=> @Bool.rec (fun _=>Prop)
          (match pend xE with
            | .exit id=>e id ⟨sl,hp⟩
            | .ret =>r ⟨sl,hp⟩
            | _=>False)
          (n ⟨sl,hp⟩) (live xE))
    | _,_=>False
def sExit (id:Nat):RM3:=fun _ Z _ e _=>e id Z
def sRet:RM3:=fun _ Z _ _ r=>r Z
def sNo:RM3:=fun _ _ _ _ _=>False
noncomputable def zbh (T:Tab) (C:Con) (c:Code):RM3:=
 @Code.rec (fun _=>RM3) sSkip (zsl T C) sSeq qbg qfe (qbf T) (zsm T C) sExit (fun _ _=>sNo) (fun _=>sNo) (fun _=>sNo) sRet (fun _=>sNo) c
theorem zkn (T:Tab) (C:Con): ∀(c:Code) (top:Bool) (Z:St) (n:St->Prop) (e:Nat->St->Prop) (r:St->Prop),zbh T C c top Z n e r=za9 T C c top Z (K3 n e r):=by
 intro c
 induction c with
 |skip=>intro top Z n e r;rfl
 |region id ops draw=>intro top Z n e r;cases draw<;>rfl
 |seq a b iha ihb=>
  intro top Z n e r;show zbh T C a top Z (fun Z=>zbh T C b top Z n e r) e r=za9 T C a top Z (fun x Z=>match x with
   | .normal =>za9 T C b top Z (K3 n e r)
   | .exit i=>K3 n e r (.exit i) Z
   | .ret =>K3 n e r .ret Z
   | _=>False)
  have hk:K3 (fun Z=>zbh T C b top Z n e r) e r=fun x Z=>match x with
   | .normal =>za9 T C b top Z (K3 n e r)
   | .exit i=>K3 n e r (.exit i) Z
   | .ret =>K3 n e r .ret Z
   | _=>False:=by
   funext x Z
   cases x<;>first|rfl|exact ihb _ _ _ _ _
  rw[iha,hk]
 |cond c a b iha ihb=>
  intro top Z n e r;show qbg c a b (zbh T C a) (zbh T C b) top Z n e r=zs3 c a b (za9 T C a) (za9 T C b) top Z (K3 n e r);simp only[qbg,zs3,iha,ihb];rfl
 |block id c ih=>
  intro top Z n e r;show zbh T C c top Z n (fun i Z=>match q1 i id with|true=>n Z|false=>e i Z) r=za9 T C c top Z (fun x Z=>match x with
   | .normal =>K3 n e r .normal Z
   | .exit i=>match q1 i id with
     |true=>K3 n e r .normal Z
     |false=>K3 n e r (.exit i) Z
   | .ret =>K3 n e r .ret Z
   | _=>False)
  have hk:K3 n (fun i Z=>match q1 i id with|true=>n Z|false=>e i Z) r=fun x Z=>match x with
   | .normal =>K3 n e r .normal Z
   | .exit i=>match q1 i id with
     |true=>K3 n e r .normal Z
     |false=>K3 n e r (.exit i) Z
   | .ret =>K3 n e r .ret Z
   | _=>False:=by funext x Z;cases x<;>rfl
  rw[ih,hk]
 |loop c ih=>
  intro top Z n e r;show qbf T c (zbh T C c) top Z n e r=zs0 T c (za9 T C c) top Z (K3 n e r);simp only[qbf,zs0,ih,zkb];have hk: ∀(A:St->Prop),K3 A e r=fun x Z=>match x with
   | .normal =>A Z
   | .exit i=>(match Exit.exit i with| .normal =>n Z| .exit i=>e i Z| .ret =>r Z| _=>False)
   | .ret =>(match Exit.ret with| .normal =>n Z| .exit i=>e i Z| .ret =>r Z| _=>False)
   | _=>False:=fun A=>by funext x Z;cases x<;>rfl
  simp only[hk];rfl
 |rangeFunc f ps a b iha ihb=>
  intro top Z n e r;show zsm T C f ps a b (zbh T C a) (zbh T C b) top Z n e r=zk9 T C f ps a b (za9 T C a) (za9 T C b) top Z (K3 n e r);simp only[zsm,zk9,iha,ihb];have hk: ∀(A B:St->Prop) (E:Nat->St->Prop),K3 A E B=fun x Z=>match x with
   | .normal =>A Z
   | .exit i=>E i Z
   | .ret =>B Z
   | _=>False:=fun A B E=>by funext x Z;cases x<;>rfl
  have hk2: ∀(A:St->Prop),K3 A (fun _ _=>False) (fun _=>False)=fun x Z=>match x with
   | .normal =>A Z
   | _=>False:=fun A=>by funext x Z;cases x<;>rfl
  cases top with
  |false=>rfl
  |true=>simp only[hk2];simp only[hk];rfl
 |exit id=>intro top Z n e r;rfl
 |scope b ih=>intro top Z n e r;rfl
 |label l=>intro top Z n e r;rfl
 |goto l=>intro top Z n e r;rfl
 |ret=>intro top Z n e r;rfl
 |refuse w=>intro top Z n e r;rfl
def zfg:Nat->Code->Code
 |0,c=>c
 |n+1,.seq _ y=>zfg n y
 | _+1,c=>c
def zrt:Nat->Code->Code
 |0,_=> .skip
 |n+1,.seq x y=> .seq x (zrt n y)
 | _+1,_=> .refuse ""
def fcS:Code->(Code->Prop)->Prop
 | .seq a b,k=>fcS b fun b=>k (.seq a b)
 |c,k=>k c
theorem qcr: ∀(c:Code) (k:Code->Prop),fcS c k<->k c:=by
 intro c
 induction c with
 |seq a b _ ihb=>intro k;show fcS b _<->_;rw[ihb]
 | _=>intro k;exact Iff.rfl
section
variable {P:Program} {T:Tab}
theorem zmf (hT:TabOK P T) (hmx:P.follows .mixedOrders =true) {c:Ctx} {K:Exit->St->Prop} {Q:Exit->Act->World->Prop}: ∀(n:Nat) (code:Code) (Z:St) (a:Act) (w:World),
 Rel c Z a w->wv T (CN P) true (zrt n code) Z K->(∀Z a w,Rel c Z a w->K .normal Z->(zfg n code).wpIn q8 0 P Q a w)->(∀e Z a w,Rel c Z a w->e≠ .normal ->K e Z->Q e a w)->code.wpIn q8 0 P Q a w
 |0,code,Z,a,w,hr,h,hn,_=>hn Z a w hr (by simpa only[zrt,wv]using h)
 |n+1,code,Z,a,w,hr,h,hn,hq=>by
  cases code with
  |seq x y=>
   simp only[zrt,wv]at h;refine wpIn_seq (qu hT hmx x true ⟨q8,.inl rfl⟩ c Z _ _ a w (fun _=>rfl) hr h fun e σ' a' w' hr' hk'=>?_)
   cases e with
   |normal=>exact zmf hT hmx n y σ' a' w' hr' hk' hn hq
   |exit i=>exact hq _ _ _ _ hr' (by simp) hk'
   |ret=>exact hq _ _ _ _ hr' (by simp) hk'
   | _=>exact hk'.elim
  | _=>exact h.elim
theorem zzw (T:Tab) (res:List ResultVar) (ex:List Nat) (r:AV) (H':Hp):K3 (fun Z=>zhf T res ex r H' Z) (fun _ _=>False) (fun Z=>zhf T res ex r H' Z)=Fin T res ex r H':=by
 funext x Z;cases x<;>rfl
theorem jq (hT:TabOK P T) (hmx:P.follows .mixedOrders =true) {res:List ResultVar} {ex:List Nat} {r:AV} {H':Hp} {c:Code} {sl:List AV} {hp:Hp}
 (h:ziv sl fun sl=>zrc hp fun hp=>zbh T (CN P) c true ⟨sl,hp⟩ (fun Z=>zhf T res ex r H' Z) (fun _ _=>False) (fun Z=>zhf T res ex r H' Z)):SemOK P T res ex r H' c ⟨sl,hp⟩:=by
 rw[qy,jy,zkn,zkm,zzw]at h;refine⟨fun c0 a w Q hr hq=>?_⟩;exact qu hT hmx c true ⟨q8,.inl rfl⟩ c0 _ _ _ a w (fun _=>rfl) hr h hq
theorem uj (hT:TabOK P T) (hmx:P.follows .mixedOrders =true) {res:List ResultVar} {ex:List Nat} {r:AV} {H':Hp} {c:Code} {sl:List AV} {hp:Hp} (n:Nat) {X:Type} (σm:X->St)
 (hfr: ∀x,zef (zer (σm x).hp) (σm x).ids =true)
 (h1:ziv sl fun sl=>zrc hp fun hp=>fcS (zrt n c) fun pc=>zbh T (CN P) pc true ⟨sl,hp⟩ (fun Z=> ∃x,leS Z (σm x)) (fun _ _=>False) (fun Z=>zhf T res ex r H' Z))
 (h2: ∀x,SemOK P T res ex r H' (zfg n c) (σm x)):SemOK P T res ex r H' c ⟨sl,hp⟩:=by
 rw[qy,jy,qcr,zkn,zkm]at h1;refine⟨fun c0 a w Q hr hq=>?_⟩;refine zmf hT hmx n c _ a w hr h1 (fun Z a w hr hk=>?_) (fun e Z a w hr hne hk=>?_)
 .obtain⟨x,hx⟩:=hk;exact(h2 x).sem c0 a w Q (hr.weaken hx (hfr x)) hq
 .cases e with
  |normal=>exact absurd rfl hne
  |ret=>exact hq _ _ _ _ hr hk
  | _=>exact hk.elim
variable {c:Ctx} {Z:St} {a:Act} {w:World}
open Classical in
set_option maxHeartbeats 1000000 in
theorem wj (hT:TabOK P T) (hmx:P.follows .mixedOrders =true) {f:Nat} {fn:Func} {code:Code} (hf:P.funcs[f]? =some fn) (hb:fn.body=some code) (hname:(fn.name== "runtime.NumGoroutine")=false)
 {ex:List Nat} {H H':Hp} {A:List AV} {r:AV} (h:fnC T ex code fn.ntmps H A H' (SemOK P T fn.results.toList ex r H' code)):zmq P f H A r H':=by
 unfold fnC at h;rw[qy,jy]at h;split at h
 case h_2=>exact h.elim
 rename_i hd1 hd2 hfar hfar' hnf hnod hex;have hk:=h;rw[jz]at hd1 hd2;rw[q2]at hex;have hexlo:=zj4 hex.1;have hexnd:=zaw hex.2;have hnod:=zaw hnod;rw[zn3]at hnf;refine⟨⟨fn,hf,by rw[hb];rfl,hname⟩,fun w M pt ow S vs hcore hcont hargs=>?_⟩
 let c0:Ctx:= {M0:=M,w0:=w,mine:=fun b=>(∃i,bl pt ow i=some b)\/S b,sm:=S,pt0:=pt,ow0:=ow}
 have hkout: ∀i,um H i->i∉zd T code:=fun i hi hj=>hd2 i hj (zeo.2 hi)
 have hout: ∀i x,hget H i=x->x≠ .dead ->hget (zhw (wc (zd T code)) H) i=x:=fun i x hx hn=>by
  rw[qc (hkout i (zp (by rw[hx];exact hn)))];exact hx
 have hback: ∀i x,hget (zhw (wc (zd T code)) H) i=x->x≠ .free ->hget H i=x:=fun i x hx hn=>by
  by_cases hi:i∈zd T code
  .rw[kq hi]at hx;exact absurd hx.symm hn
  .rw[qc hi]at hx;exact hx
 have hlen:=hargs.length;have hkpt: ∀i,(hget H i).isPt =true->um H i:=fun i hi=>zp fun e=>by rw[e]at hi;cases hi
 have hkow: ∀i,(hget H i).isBuf =true->um H i:=fun i hi=>zp fun e=>by rw[e]at hi;cases hi
 have hg0:Good c0 M pt ow S (zhw (wc (zd T code)) H) w:= {
  os:=rfl,tape:=rfl,output:=rfl,size:=q6 _,keep:=fun _ _ _=>rfl,fresh:=hcore.fresh,m0:=fun _ h=>h,m1:=hcore.fresh,mt:=hcore.mt
  gm:=hcore.gm,gd:=hcore.gd,gl:=fun b hb=> .inr ⟨.inr hb,hb⟩
  loc:=fun i b hb=> .inr ⟨.inl ⟨i,hb⟩,by
   have hk:um H i:=by
    unfold bl at hb
    cases hq:pt i with
    |some z=>exact hkpt i (hcore.dpt i z hq)
    |none=>
     rw[hq]at hb
     cases hq2:ow i with
     |none=>rw[hq2]at hb;cases hb
     |some z=>exact hkow i (hcore.dow i z hq2)
   exact(zkh hfar i (zeo.2 hk)).1⟩
  farp:=fun _ _ _ h=>h,farw:=fun _ _ _ h=> .inl h
  inj:=hcore.inj
  dpt:=fun i b hb=>by rw[qc (hkout i (hkpt i (hcore.dpt i b hb)))];exact hcore.dpt i b hb
  dow:=fun i b hb=>by rw[qc (hkout i (hkow i (hcore.dow i b hb)))];exact hcore.dow i b hb
  blk:=fun i=>by
   by_cases hi:i∈zd T code
   .rw[kq hi];trivial
   .rw[qc hi];exact hcore.blk i}
 have hfree: ∀i,i∈wg A++zee H->(hget (zhw (wc (zd T code)) H) i).isFree =false:=fun i hi=>by
  rw[qc fun hj=>hd1 i hj hi];exact zcu hnf
 have hrel:Rel c0 ⟨A++ye (fn.ntmps-A.length),zhw (wc (zd T code)) H⟩ {tmps:=vs.toArray++Array.replicate (fn.ntmps-vs.toArray.size) undef,defers:= []} w:=by
  refine⟨M,pt,ow,S,hg0,fun pt' ow' hag=>?_,.nil⟩;have hle: ∀is:List Nat,(∀i∈is,i∈wg A++zee H)->Env.le ⟨zn w M,pt,ow⟩ ⟨zn w M,pt',ow'⟩ is:=fun is his=>⟨fun _ _ h=>h,fun i hi=>by
   have:=hag i (hfree i (his i hi));exact⟨fun b hb=>by change pt' i=some b at hb;rw[this.1]at hb;exact hb,fun b hb=>by change ow' i=some b at hb;rw[this.2]at hb;exact hb⟩⟩
  refine⟨?_,fun i l b cs Ty hl hb hcs=>?_⟩
  .have h1:=hargs.imp A _ (hle _ fun i hi=>by simp[hi]);have h2:=zn5 (ρ:=⟨zn w M,pt',ow'⟩) (fn.ntmps-A.length);have:=h1.append h2;rw[hlen]at this⊢;simpa using this
  .have hl':=hback i _ hl (by simp);exact(hcont i l b cs Ty hl' hb hcs).imp _ _ (hle _ fun j hj=>by simp only[List.mem_append];exact .inr (kp hl' j hj))
 have hfin: ∀(Z:St) (a:Act) (w':World),Rel c0 Z a w'->zhf T fn.results.toList ex r H' Z->LeavesInM q8 0 P fn a.tmps (Ans w M pt ow S r H') a.defers .returning w':=by
  intro Z a w' hr hK;obtain⟨_,_,_,_,_,_,Ds,hDs,_⟩:=id hr;obtain⟨tm,ds⟩:=a;simp only at hDs;subst hDs;refine zbs tm (fun w' hr=>?_) Ds w' hr;unfold zhf at hK;obtain⟨l1,hK,_⟩:=zar hT hr _ _ hK;obtain⟨σ',hr',hK⟩:=yy hr hK;obtain⟨l,⟨hleA,hleH⟩,vs',hrun,hrs⟩:=zar hT hr' _ _ hK;obtain⟨M1,pt1,ow1,S1,hg,hs,_⟩:=hr';obtain⟨v,hv,hRv⟩:=zgm hrun (hrs M1 pt1 ow1 S1 hg hs);refine⟨v,hv,?_⟩;obtain⟨ptN,owN,hgN,hless,hcel⟩:=hg.weaken (zj5 hleH);have hexI: ∀i,i∈keys H'->(i<2000000/\(1000000<=i/\(i<1500000\/1999999<=i))/\exI ex i=i)\/(2000000<=i/\ ∃h:i-2000000<ex.length,exI ex i=ex[i-2000000]):=fun i hi=>by
   obtain⟨h1,h2,h2'⟩:=zkh hfar' i hi;rcases q5 i 2000000 with h3|h3
   .exact .inl ⟨h3,⟨h1,h2'⟩,zzx h3⟩
   .exact .inr ⟨h3,by omega,qg5 h3 h2⟩
  have hexin: ∀i,i∈keys H'->2000000<=i->exI ex i∈ex/\exI ex i<=999998:=fun i hi h2=>by
   rcases hexI i hi with h|⟨_,h3,h4⟩
   .omega
   .rw[h4];exact⟨List.getElem_mem _,hexlo _ (List.getElem_mem _)⟩
  have hinj: ∀i,i∈keys H'-> ∀j∈keys H',exI ex j=exI ex i->j=i:=fun i hi j hj e=>by
   rcases hexI i hi with ⟨h1,h2,h3⟩|⟨h1,h2,h3⟩<;>rcases hexI j hj with ⟨h4,h5,h6⟩|⟨h4,h5,h6⟩
   .rw[h3,h6]at e;exact e
   .have:=(hexin j hj h4).2;rw[h3]at e;omega
   .have:=(hexin i hi h1).2;rw[h6]at e;omega
   .rw[h3,h6]at e;have:=(List.getElem_inj hexnd).1 e;omega
  have hgetm: ∀i,i∈keys H'->hget (zf0 (exI ex) H') (exI ex i)=(hget H' i).mapI (exI ex):=fun i hi=>zg4 _ hi (hinj i hi)
  have hkeyH': ∀i,hget H' i≠ .dead ->i∈keys H':=fun i hi=>zeo.2 (zp hi)
  have hfarp: ∀i b,(1000000<=i/\(i<1500000\/1999999<=i))->ptN i=some b->pt i=some b:=fun i b hi=>hgN.farp i b hi.1
  have hfarw: ∀i b,(1000000<=i/\(i<1500000\/1999999<=i))->owN i=some b->ow i=some b:=fun i b hi hb=>by
   rcases hgN.farw i b hi.1 hb with h1|h1
   .exact h1
   .omega
  have hblf: ∀i b,(1000000<=i/\(i<1500000\/1999999<=i))->bl ptN owN i=some b->bl pt ow i=some b:=fun i b hi hb=>by
   unfold bl at hb⊢
   cases hq:ptN i with
   |some z=>rw[hq]at hb;rw[hfarp i z hi hq];exact hb
   |none=>
    rw[hq]at hb
    cases hq2:owN i with
    |none=>rw[hq2]at hb;cases hb
    |some z=>
     rw[hq2]at hb;have h1:=hfarw i z hi hq2;rw[hcore.ptow h1,h1];exact hb
  have hbln: ∀i b,i<=999998->bl ptN owN i=some b->w.heap.size<=b:=fun i b hi hb=>by
   rcases hgN.loc i b hb with h1|h1
   .exact h1
   .have:=h1.2;omega
  let ptF:Nat->Option Nat:=fun i=>if i∈keys H' then ptN (exI ex i)else none
  let owF:Nat->Option Value:=fun i=>if i∈keys H' then owN (exI ex i)else none
  let MF:Nat->Prop:=fun b=>M b\/S1 b\/ ∃i,i∈ex/\bl ptN owN i=some b
  have hF: ∀i,i∈keys H'->ptF i=ptN (exI ex i)/\owF i=owN (exI ex i):=fun i hi=>by simp only[ptF,owF,Z4 hi];exact⟨trivial,trivial⟩
  have hFp: ∀i b,ptF i=some b->i∈keys H'/\ptN (exI ex i)=some b:=fun i b hb=>by
   by_cases hi:i∈keys H'
   .exact⟨hi,by rw[(hF i hi).1]at hb;exact hb⟩
   .simp only[ptF,Z5 hi]at hb;cases hb
  have hFw: ∀i b,owF i=some b->i∈keys H'/\owN (exI ex i)=some b:=fun i b hb=>by
   by_cases hi:i∈keys H'
   .exact⟨hi,by rw[(hF i hi).2]at hb;exact hb⟩
   .simp only[owF,Z5 hi]at hb;cases hb
  have hFb: ∀i b,bl ptF owF i=some b->i∈keys H'/\bl ptN owN (exI ex i)=some b:=fun i b hb=>by
   by_cases hi:i∈keys H'
   .exact⟨hi,by simpa only[bl,(hF i hi).1,(hF i hi).2]using hb⟩
   .simp only[bl,ptF,owF,Z5 hi]at hb;cases hb
  have hMF1: ∀b,MF b->M1 b:=fun b hb=>by
   rcases hb with h1|h1|⟨i,_,h1⟩
   .exact hgN.m0 b h1
   .exact hgN.gm b h1
   .exact hgN.mt i b h1
  have hV: ∀b o,zn w' M1 b o->zn w' MF b o:=zw fun b o hm hb=>⟨fun h'=>hm (hMF1 b h'),hb⟩
  have hR1: ∀(x:AV) (y:Value),R ⟨zn w' M1,ptN,owN⟩ (x.mapI (exI ex)) y->R ⟨zn w' MF,ptF,owF⟩ x y:=fun x y hx=>by
   have h1:=(R.mapI (V:=zn w' M1) (f:=exI ex) (pt:=fun i=>ptN (exI ex i)) (ow:=fun i=>owN (exI ex i)) (pt':=ptN) (ow':=owN) x y fun i _=>⟨rfl,rfl⟩).1 hx;exact h1.imp x y ⟨hV,fun i _=>⟨fun b hb=>(hFp i b hb).2,fun b hb=>(hFw i b hb).2⟩⟩
  have hR2: ∀(x:List AV) (y:List Value),Rs ⟨zn w' M1,ptN,owN⟩ (zam (exI ex) x) y->Rs ⟨zn w' MF,ptF,owF⟩ x y:=fun x y hx=>by
   have h1:=(Rs.mapI (V:=zn w' M1) (f:=exI ex) (pt:=fun i=>ptN (exI ex i)) (ow:=fun i=>owN (exI ex i)) (pt':=ptN) (ow':=owN) x y fun i _=>⟨rfl,rfl⟩).1 hx;exact h1.imp x y ⟨hV,fun i _=>⟨fun b hb=>(hFp i b hb).2,fun b hb=>(hFw i b hb).2⟩⟩
  refine⟨v,MF,ptF,owF,S1,rfl,?_,?_,hR1 r v (R.le _ _ _ hleA (hless _) hRv),?_⟩
  .exact {
    fresh:=fun b hb=>hgN.fresh b (hMF1 b hb)
    mt:=fun i b hb=>by
     obtain⟨hi,hb'⟩:=hFb i b hb;rcases hexI i hi with ⟨h1,h2,h3⟩|⟨h1,_,_⟩
     .rw[h3]at hb';exact .inl (hcore.mt i b (hblf i b h2 hb'))
     .exact .inr (.inr ⟨_,(hexin i hi h1).1,hb'⟩)
    inj:=fun i j b hi hj=>by
     obtain⟨h1,h2⟩:=hFb i b hi;obtain⟨h3,h4⟩:=hFb j b hj;exact(hinj i h1 j h3 (hgN.inj _ _ b h4 h2)).symm
    gm:=fun b hb=> .inr (.inl hb)
    gd:=fun i b hb=>hgN.gd _ b (hFb i b hb).2
    dpt:=fun i b hb=>by
     obtain⟨hi,hb'⟩:=hFp i b hb;have:=hgN.dpt _ b hb';rw[hgetm i hi,zaz]at this;exact this
    dow:=fun i b hb=>by
     obtain⟨hi,hb'⟩:=hFw i b hb;have:=hgN.dow _ b hb';rw[hgetm i hi,xc]at this;exact this
    blk:=fun i=>by
     by_cases hi:i∈keys H'
     .have h1:=hgN.blk (exI ex i);rw[hgetm i hi]at h1;have h2:=h1.unren (pt':=ptF) (ow':=owF) (i:=i) (exI ex) (hF i hi).1 (hF i hi).2 fun e=>by
       rcases hexI i hi with ⟨h3,h4,h5⟩|⟨h3,_,_⟩
       .rw[h5]at e;exact e
       .have:=(hexin i hi h3).2;rw[e]at this;simp only[zy]at this;omega
      refine h2.mono rfl rfl hV (fun x hx=>?_) (fun _ _ _ h=>h) (fun _ _ _ h=>h);obtain⟨_,hx'⟩:=hFw i x hx;rw[(hF i hi).1];exact hgN.ptow hx'
     .have:hget H' i= .dead :=by
       cases e:hget H' i<;>first|rfl|exact absurd (hkeyH' i (by rw[e];simp)) hi
      rw[this];trivial}
  .intro i m b cs Ty hm hb' hcs;obtain⟨hi,hb''⟩:=hFp i b hb';have h1:=hgetm i hi;rw[hm]at h1;simp only[Blk.mapI]at h1;obtain⟨l0,h2,h3,h4⟩:=hcel _ _ h1;rw[h4]at hb'';exact hR2 m _ (Rs.le _ _ _ h3 (hless _) ((hs pt1 ow1 (Agr.refl _ _ _)).2 _ l0 b cs Ty h2 hb'' hcs))
  .exact {
    os:=hgN.os,tape:=hgN.tape,output:=hgN.output,size:=hgN.size
    same:=fun b hb hn hS=>hgN.keep b hb fun h=>h.elim (fun⟨i,hi⟩=>hn i hi) hS
    mm:=fun b hb=> .inl hb
    mn:=fun b hb=>by
     rcases hb with h1|h1|⟨i,hi,h1⟩
     .exact .inl h1
     .rcases hgN.gl b h1 with h2|h2
      .exact .inr h2
      .exact .inl (hcore.gm b h2.2)
     .exact .inr (hbln i b (hexlo i hi) h1)
    sn:=fun b hb=>by
     rcases hgN.gl b hb with h2|h2
     .exact .inr h2
     .exact .inl h2.2
    lept:=fun i b hb=>by
     obtain⟨hi,hb'⟩:=hFp i b hb;rcases hexI i hi with ⟨h1,h2,h3⟩|⟨h1,_,_⟩
     .rw[h3]at hb';exact .inl (hfarp i b h2 hb')
     .exact .inr ⟨hbln _ b (hexin i hi h1).2 (by simp[bl,hb']),h1⟩
    leow:=fun i x hx=>by
     obtain⟨hi,hx'⟩:=hFw i x hx;rcases hexI i hi with ⟨h1,h2,h3⟩|⟨h1,_,_⟩
     .rw[h3]at hx';exact .inl (hfarw i x h2 hx')
     .refine .inr ⟨fun b hb=> .inl (hbln _ b (hexin i hi h1).2 ?_),h1⟩;unfold bl;rw[hgN.ptow hx',hx'];cases x<;>first|exact hb|(simp[vbl]at hb;done)|(rename_i ao _ _;cases ao<;>first|exact hb|(simp[vbl]at hb;done))}
 refine callsIn_wide.1 (callsIn_of_wp_marks (n:=0) hf hb trivial (hk.sem c0 _ _ _ hrel fun e Z a w' hr hK=>?_))
 cases e with
 |normal=>exact hfin Z a w' hr hK
 |ret=>exact hfin Z a w' hr hK
 | _=>exact hK.elim
end
theorem zxu {T:Tab} {ex:List Nat} {c:Code} {n:Nat} {H:Hp} {A:List AV} {H':Hp} {W W':St->Prop} (hw: ∀sl hp,W ⟨sl,hp⟩->W' ⟨sl,hp⟩) (h:fnC T ex c n H A H' W):fnC T ex c n H A H' W':=by
 unfold fnC at h⊢;rw[qy,jy]at h⊢;generalize zef (zd T c) (wg A++zee H)=b1 at h⊢;generalize zef (zd T c) (keys H)=b2 at h⊢;generalize far 0 (keys H)=b3 at h⊢;generalize far ex.length (keys H')=b4 at h⊢;generalize yi (zq2 H)=b5 at h⊢;generalize zdj (keys H')=b6 at h⊢;generalize (qd8 ex&&zdj ex)=b7 at h⊢
 match b1,b2,b3,b4,b5,b6,b7,h with
 |true,true,true,true,true,true,true,h=>exact hw _ _ h
theorem fnT {P:Program} {T:Tab} (hT:TabOK P T) (hmx:P.follows .mixedOrders =true) {f:Nat} {fn:Func} {code:Code} (hf:P.funcs[f]? =some fn) (hb:fn.body=some code) (hname:(fn.name== "runtime.NumGoroutine")=false)
 {ex:List Nat} {H H':Hp} {A:List AV} {r:AV} (h:fnC T ex code fn.ntmps H A H' fun Z=>zbh T (CN P) code true Z (fun Z=>zhf T fn.results.toList ex r H' Z) (fun _ _=>False) (fun Z=>zhf T fn.results.toList ex r H' Z)):zmq P f H A r H':=by
 refine wj hT hmx hf hb hname (ex:=ex) (zxu (fun sl hp h=>?_) h);exact jq hT hmx (by rw[qy,jy];exact h)
theorem gZn{Q K:List Blk->AV->Prop}{r:AV}(h:Q [] r)(k:K [] r): ∃b r,Q b r/\K b r:=⟨_,_,h,k⟩
theorem zao.slice {w:World} {V:ka} {e:TypeId} {k:Elt} {xs:List k.T} {h:Value} (hb:zao w V e k xs h): ∃a n c,h= .slice a n c:=by
 rcases hb with ⟨h1,_⟩|⟨b,cap,cs,h1,_⟩
 .exact⟨_,_,_,h1⟩
 .exact⟨_,_,_,h1⟩
section
variable {P:Program} {T:Tab} {F:Wf} {c:Ctx} {Z:St} {a:Act} {w:World}
set_option maxHeartbeats 1000000 in
open Classical in
set_option maxHeartbeats 2000000 in
end
structure LeftB (B:List Nat) (w w':World) (M M':Nat->Prop) (pt:Nat->Option Nat) (ow:Nat->Option Value) (pt':Nat->Option Nat) (ow':Nat->Option Value):Prop where
 os:w'.os=w.os
 tape:w'.tape=w.tape
 output:w'.output=w.output
 size:w.heap.size<=w'.heap.size
 same: ∀b,b<w.heap.size->(∀i,bl pt ow i≠some b)->w'.heap[b]? =w.heap[b]?
 mm: ∀b,M b->M' b
 mn: ∀b,M' b->M b\/w.heap.size<=b
 lept: ∀i b,pt' i=some b->pt i=some b
 leow: ∀i h,ow' i=some h->ow i=some h\/(i∈B/\ ∀b,vbl h=some b->w.heap.size<=b\/ ∃j,bl pt ow j=some b)
def AnsB (B:List Nat) (w:World) (M:Nat->Prop) (pt:Nat->Option Nat) (ow:Nat->Option Value) (r:AV) (H':Hp) (e:Ending) (w':World):Prop:=
 ∃v M' pt' ow',e= .returned v/\Core M' pt' ow' (fun _=>False) H' w'/\zez H' w' M' pt' ow' pt' ow'/\R ⟨zn w' M',pt',ow'⟩ r v/\LeftB B w w' M M' pt ow pt' ow'
def FnRB (P:Program) (f:Nat) (B:List Nat):CT:=fun H A r H'=>
 Ent P f/\ ∀(w:World) (M:Nat->Prop) (pt:Nat->Option Nat) (ow:Nat->Option Value) (vs:List Value),Core M pt ow (fun _=>False) H w->zez H w M pt ow pt ow->Rs ⟨zn w M,pt,ow⟩ A vs->
  Calls P f vs.toArray w (AnsB B w M pt ow r H')
section
variable {P:Program} {c:Ctx} {Z:St} {a:Act} {w:World}
open Classical in
end
def farC:List Nat->Bool
 | []=>true
 |i::l=>q3 1000000 i&&q3 i 1999998&&farC l
def kOk (B:List Nat):List Nat->Bool
 | []=>true
 |i::l=>q3 1000000 i&&q3 i 1999998&&(Nat.blt i 1500000||zfd i B)&&kOk B l
def zli:List Blk->Bool
 | []=>true
 | .gst _::_=>false
 | _::l=>zli l
theorem zpk: ∀ {l:List Nat},farC l=true-> ∀i∈l,1000000<=i/\i<=1999998
 | [],_,i,hi=>by cases hi
 |j::l,h,i,hi=>by
  simp only[farC,q2]at h;rcases List.mem_cons.1 hi with rfl|hi
  .exact⟨q0 h.1.1,q0 h.1.2⟩
  .exact zpk h.2 i hi
theorem znu {B:List Nat}: ∀ {l:List Nat},kOk B l=true-> ∀i∈l,(1000000<=i/\i<=1999998)/\(i<1500000\/i∈B)
 | [],_,i,hi=>by cases hi
 |j::l,h,i,hi=>by
  simp only[kOk,q2,q4]at h;rcases List.mem_cons.1 hi with rfl|hi
  .refine⟨⟨q0 h.1.1.1,q0 h.1.1.2⟩,h.1.2.imp (fun h=>?_) (jc _ _).1⟩;rw[q7]at h;exact h
  .exact znu h.2 i hi
theorem zlh: ∀ {H:Hp},zli (zq2 H)=true-> ∀i J,hget H i≠ .gst J
 | [],_,i,J,h=>by simp[hget]at h
 |(j,b)::r,hn,i,J,h=>by
  rw[ze]at h;have hr:zli (zq2 r)=true/\ ∀J,b≠ .gst J:=by
   cases b<;>first|(simp[zq2,zli]at hn;done)|exact⟨by simpa[zq2,zli]using hn,fun J e=>by cases e⟩
  split at h
  .exact hr.2 J h
  .exact zlh hr.1 i J h
def fnCB (T:Tab) (B:List Nat) (c:Code) (n:Nat) (H:Hp) (A:List AV) (H':Hp) (W:St->Prop):Prop:=
 ziv (A++ye (n-A.length)) fun sl=>zrc (zhw (wc (zd T c)) H) fun hp=>
  match zef (zd T c) (wg A++zee H),zef (zd T c) (keys H),farC (keys H),kOk B (keys H'),yi (zq2 H),zdj (keys H'),zli (zq2 H')with
  |true,true,true,true,true,true,true=>W ⟨sl,hp⟩
  | _,_,_,_,_,_,_=>False
section
variable {P:Program} {T:Tab}
open Classical in
set_option maxHeartbeats 1000000 in
theorem zud (hT:TabOK P T) {f:Nat} {fn:Func} {code:Code} (hf:P.funcs[f]? =some fn) (hb:fn.body=some code) (hname:(fn.name== "runtime.NumGoroutine")=false)
 {B:List Nat} (ex:List Nat) {H H':Hp} {A:List AV} {r:AV} (h:fnCB T B code fn.ntmps H A H' (SemOK P T fn.results.toList ex r H' code)):FnRB P f B H A r H':=by
 unfold fnCB at h;rw[qy,jy]at h;split at h
 case h_2=>exact h.elim
 rename_i hd1 hd2 hfar hfar' hnf hnod hng;have hk:=h;rw[jz]at hd1 hd2;have hnod:=zaw hnod;rw[zn3]at hnf;refine⟨⟨fn,hf,by rw[hb];rfl,hname⟩,fun w M pt ow vs hcore hcont hargs=>?_⟩
 let c0:Ctx:= {M0:=M,w0:=w,mine:=fun b=> ∃i,bl pt ow i=some b,sm:=fun _=>False,pt0:=pt,ow0:=ow}
 have hkout: ∀i,um H i->i∉zd T code:=fun i hi hj=>hd2 i hj (zeo.2 hi)
 have hback: ∀i x,hget (zhw (wc (zd T code)) H) i=x->x≠ .free ->hget H i=x:=fun i x hx hn=>by
  by_cases hi:i∈zd T code
  .rw[kq hi]at hx;exact absurd hx.symm hn
  .rw[qc hi]at hx;exact hx
 have hlen:=hargs.length;have hkpt: ∀i,(hget H i).isPt =true->um H i:=fun i hi=>zp fun e=>by rw[e]at hi;cases hi
 have hkow: ∀i,(hget H i).isBuf =true->um H i:=fun i hi=>zp fun e=>by rw[e]at hi;cases hi
 have hg0:Good c0 M pt ow (fun _=>False) (zhw (wc (zd T code)) H) w:= {
  os:=rfl,tape:=rfl,output:=rfl,size:=q6 _,keep:=fun _ _ _=>rfl,fresh:=hcore.fresh,m0:=fun _ h=>h,m1:=hcore.fresh,mt:=hcore.mt
  gm:=hcore.gm,gd:=hcore.gd,gl:=fun b hb=>hb.elim
  loc:=fun i b hb=> .inr ⟨⟨i,hb⟩,by
   have hk:um H i:=by
    unfold bl at hb
    cases hq:pt i with
    |some z=>exact hkpt i (hcore.dpt i z hq)
    |none=>
     rw[hq]at hb
     cases hq2:ow i with
     |none=>rw[hq2]at hb;cases hb
     |some z=>exact hkow i (hcore.dow i z hq2)
   exact(zpk hfar i (zeo.2 hk)).1⟩
  farp:=fun _ _ _ h=>h,farw:=fun _ _ _ h=> .inl h
  inj:=hcore.inj
  dpt:=fun i b hb=>by rw[qc (hkout i (hkpt i (hcore.dpt i b hb)))];exact hcore.dpt i b hb
  dow:=fun i b hb=>by rw[qc (hkout i (hkow i (hcore.dow i b hb)))];exact hcore.dow i b hb
  blk:=fun i=>by
   by_cases hi:i∈zd T code
   .rw[kq hi];trivial
   .rw[qc hi];exact hcore.blk i}
 have hfree: ∀i,i∈wg A++zee H->(hget (zhw (wc (zd T code)) H) i).isFree =false:=fun i hi=>by
  rw[qc fun hj=>hd1 i hj hi];exact zcu hnf
 have hrel:Rel c0 ⟨A++ye (fn.ntmps-A.length),zhw (wc (zd T code)) H⟩ {tmps:=vs.toArray++Array.replicate (fn.ntmps-vs.toArray.size) undef,defers:= []} w:=by
  refine⟨M,pt,ow,fun _=>False,hg0,fun pt' ow' hag=>?_,.nil⟩;have hle: ∀is:List Nat,(∀i∈is,i∈wg A++zee H)->Env.le ⟨zn w M,pt,ow⟩ ⟨zn w M,pt',ow'⟩ is:=fun is his=>⟨fun _ _ h=>h,fun i hi=>by
   have:=hag i (hfree i (his i hi));exact⟨fun b hb=>by change pt' i=some b at hb;rw[this.1]at hb;exact hb,fun b hb=>by change ow' i=some b at hb;rw[this.2]at hb;exact hb⟩⟩
  refine⟨?_,fun i l b cs Ty hl hb hcs=>?_⟩
  .have h1:=hargs.imp A _ (hle _ fun i hi=>by simp[hi]);have h2:=zn5 (ρ:=⟨zn w M,pt',ow'⟩) (fn.ntmps-A.length);have:=h1.append h2;rw[hlen]at this⊢;simpa using this
  .have hl':=hback i _ hl (by simp);exact(hcont i l b cs Ty hl' hb hcs).imp _ _ (hle _ fun j hj=>by simp only[List.mem_append];exact .inr (kp hl' j hj))
 have hfin: ∀(Z:St) (a:Act) (w':World),Rel c0 Z a w'->zhf T fn.results.toList ex r H' Z->LeavesInM q8 0 P fn a.tmps (AnsB B w M pt ow r H') a.defers .returning w':=by
  intro Z a w' hr hK;obtain⟨_,_,_,_,_,_,Ds,hDs,_⟩:=id hr;obtain⟨tm,ds⟩:=a;simp only at hDs;subst hDs;refine zbs tm (fun w' hr=>?_) Ds w' hr;unfold zhf at hK;obtain⟨l1,hK,_⟩:=zar hT hr _ _ hK;obtain⟨σ',hr',hK⟩:=yy hr hK;obtain⟨l,⟨hleA,hleH⟩,vs',hrun,hrs⟩:=zar hT hr' _ _ hK;obtain⟨M1,pt1,ow1,S1,hg,hs,_⟩:=hr';obtain⟨v,hv,hRv⟩:=zgm hrun (hrs M1 pt1 ow1 S1 hg hs);refine⟨v,hv,?_⟩;obtain⟨ptN,owN,hgN,hless,hcel⟩:=hg.weaken (zj5 hleH);have hlo: ∀i,i∈keys H'->1000000<=i/\i<=1999998:=fun i hi=>(znu hfar' i hi).1
  have hex: ∀i,i∈keys H'->exI ex i=i:=fun i hi=>zzx (by have:=hlo i hi;omega)
  have hinj: ∀i,i∈keys H'-> ∀j∈keys H',exI ex j=exI ex i->j=i:=fun i hi j hj e=>by rwa [hex i hi,hex j hj]at e
  have hgetm: ∀i,i∈keys H'->hget (zf0 (exI ex) H') (exI ex i)=(hget H' i).mapI (exI ex):=fun i hi=>zg4 _ hi (hinj i hi)
  have hkeyH': ∀i,hget H' i≠ .dead ->i∈keys H':=fun i hi=>zeo.2 (zp hi)
  let ptF:Nat->Option Nat:=fun i=>if i∈keys H' then ptN (exI ex i)else none
  let owF:Nat->Option Value:=fun i=>if i∈keys H' then owN (exI ex i)else none
  let MF:Nat->Prop:=fun b=>M b\/ ∃i,i∈keys H'/\bl ptN owN i=some b
  have hF: ∀i,i∈keys H'->ptF i=ptN i/\owF i=owN i:=fun i hi=>by simp only[ptF,owF,Z4 hi,hex i hi];exact⟨trivial,trivial⟩
  have hF': ∀i,i∈keys H'->ptF i=ptN (exI ex i)/\owF i=owN (exI ex i):=fun i hi=>by rw[hex i hi];exact hF i hi
  have hFp: ∀i b,ptF i=some b->i∈keys H'/\ptN i=some b:=fun i b hb=>by
   by_cases hi:i∈keys H'
   .exact⟨hi,by rw[(hF i hi).1]at hb;exact hb⟩
   .simp only[ptF,Z5 hi]at hb;cases hb
  have hFw: ∀i b,owF i=some b->i∈keys H'/\owN i=some b:=fun i b hb=>by
   by_cases hi:i∈keys H'
   .exact⟨hi,by rw[(hF i hi).2]at hb;exact hb⟩
   .simp only[owF,Z5 hi]at hb;cases hb
  have hFb: ∀i b,bl ptF owF i=some b->i∈keys H'/\bl ptN owN i=some b:=fun i b hb=>by
   by_cases hi:i∈keys H'
   .exact⟨hi,by simpa only[bl,(hF i hi).1,(hF i hi).2]using hb⟩
   .simp only[bl,ptF,owF,Z5 hi]at hb;cases hb
  have hMF1: ∀b,MF b->M1 b:=fun b hb=>by
   rcases hb with h1|⟨i,_,h1⟩
   .exact hgN.m0 b h1
   .exact hgN.mt i b h1
  have hV: ∀b o,zn w' M1 b o->zn w' MF b o:=zw fun b o hm hb=>⟨fun h'=>hm (hMF1 b h'),hb⟩
  have hR1: ∀(x:AV) (y:Value),R ⟨zn w' M1,ptN,owN⟩ (x.mapI (exI ex)) y->R ⟨zn w' MF,ptF,owF⟩ x y:=fun x y hx=>by
   have h1:=(R.mapI (V:=zn w' M1) (f:=exI ex) (pt:=fun i=>ptN (exI ex i)) (ow:=fun i=>owN (exI ex i)) (pt':=ptN) (ow':=owN) x y fun i _=>⟨rfl,rfl⟩).1 hx;exact h1.imp x y ⟨hV,fun i _=>⟨fun b hb=>by
    obtain⟨h2,h3⟩:=hFp i b hb;show ptN (exI ex i)=some b;rw[hex i h2];exact h3,fun b hb=>by
    obtain⟨h2,h3⟩:=hFw i b hb;show owN (exI ex i)=some b;rw[hex i h2];exact h3⟩⟩
  have hR2: ∀(x:List AV) (y:List Value),Rs ⟨zn w' M1,ptN,owN⟩ (zam (exI ex) x) y->Rs ⟨zn w' MF,ptF,owF⟩ x y:=fun x y hx=>by
   have h1:=(Rs.mapI (V:=zn w' M1) (f:=exI ex) (pt:=fun i=>ptN (exI ex i)) (ow:=fun i=>owN (exI ex i)) (pt':=ptN) (ow':=owN) x y fun i _=>⟨rfl,rfl⟩).1 hx;exact h1.imp x y ⟨hV,fun i _=>⟨fun b hb=>by
    obtain⟨h2,h3⟩:=hFp i b hb;show ptN (exI ex i)=some b;rw[hex i h2];exact h3,fun b hb=>by
    obtain⟨h2,h3⟩:=hFw i b hb;show owN (exI ex i)=some b;rw[hex i h2];exact h3⟩⟩
  refine⟨v,MF,ptF,owF,rfl,?_,?_,hR1 r v (R.le _ _ _ hleA (hless _) hRv),?_⟩
  .exact {
    fresh:=fun b hb=>hgN.fresh b (hMF1 b hb)
    mt:=fun i b hb=>by
     obtain⟨hi,hb'⟩:=hFb i b hb;exact .inr ⟨i,hi,hb'⟩
    inj:=fun i j b hi hj=>hgN.inj i j b (hFb i b hi).2 (hFb j b hj).2
    gm:=fun b hb=>hb.elim
    gd:=fun i b _ hS=>hS
    dpt:=fun i b hb=>by
     obtain⟨hi,hb'⟩:=hFp i b hb;have:=hgN.dpt _ b hb';have e:=hgetm i hi;rw[hex i hi]at e;rw[e,zaz]at this;exact this
    dow:=fun i b hb=>by
     obtain⟨hi,hb'⟩:=hFw i b hb;have:=hgN.dow _ b hb';have e:=hgetm i hi;rw[hex i hi]at e;rw[e,xc]at this;exact this
    blk:=fun i=>by
     by_cases hi:i∈keys H'
     .have h1:=hgN.blk (exI ex i);rw[hgetm i hi]at h1;have h2:=h1.unren (pt':=ptF) (ow':=owF) (i:=i) (exI ex) (hF' i hi).1 (hF' i hi).2 fun e=>by
       rw[hex i hi]at e;exact e
      have h3:=h2.mono (w':=w') (V':=zn w' MF) rfl rfl hV (fun x hx=>by
       obtain⟨_,hx'⟩:=hFw i x hx;rw[(hF i hi).1];exact hgN.ptow hx') (fun _ _ _ h=>h) (fun _ _ _ h=>h)
      have h4:=h3.ren (pt':=ptF) (ow':=owF) (S':=fun _=>False) (i:=i) id rfl rfl (fun e=>by
       have:=hlo i hi;simp only[zy]at e;omega)
      rwa [Blk.mapI_id']at h4
     .have:hget H' i= .dead :=by
       cases e:hget H' i<;>first|rfl|exact absurd (hkeyH' i (by rw[e];simp)) hi
      rw[this];trivial}
  .intro i m b cs Ty hm hb' hcs;obtain⟨hi,hb''⟩:=hFp i b hb';have h1:=hgetm i hi;rw[hm]at h1;simp only[Blk.mapI]at h1;obtain⟨l0,h2,h3,h4⟩:=hcel _ _ h1;rw[hex i hi]at h2 h4;rw[h4]at hb'';exact hR2 m _ (Rs.le _ _ _ h3 (hless _) ((hs pt1 ow1 (Agr.refl _ _ _)).2 _ l0 b cs Ty h2 hb'' hcs))
  .exact {
    os:=hgN.os,tape:=hgN.tape,output:=hgN.output,size:=hgN.size
    same:=fun b hb hn=>hgN.keep b hb fun⟨i,hi⟩=>hn i hi
    mm:=fun b hb=> .inl hb
    mn:=fun b hb=>by
     rcases hb with h1|⟨i,hi,h1⟩
     .exact .inl h1
     .rcases hgN.loc i b h1 with h2|⟨⟨j,h2⟩,_⟩
      .exact .inr h2
      .exact .inl (hcore.mt j b h2)
    lept:=fun i b hb=>by
     obtain⟨hi,hb'⟩:=hFp i b hb;exact hgN.farp i b (hlo i hi).1 hb'
    leow:=fun i x hx=>by
     obtain⟨hi,hx'⟩:=hFw i x hx;rcases hgN.farw i x (hlo i hi).1 hx' with h1|h1
     .exact .inl h1
     .rcases(znu hfar' i hi).2 with h2|h2
      .omega
      .refine .inr ⟨h2,fun b hb=>?_⟩;have hbl:bl ptN owN i=some b:=by
        unfold bl;rw[hgN.ptow hx',hx'];cases x<;>first|exact hb|(simp[vbl]at hb;done)|(rename_i ao _ _;cases ao<;>first|exact hb|(simp[vbl]at hb;done))
       rcases hgN.loc i b hbl with h3|⟨h3,_⟩
       .exact .inl h3
       .exact .inr h3}
 refine callsIn_wide.1 (callsIn_of_wp_marks (n:=0) hf hb trivial (hk.sem c0 _ _ _ hrel fun e Z a w' hr hK=>?_))
 cases e with
 |normal=>exact hfin Z a w' hr hK
 |ret=>exact hfin Z a w' hr hK
 | _=>exact hK.elim
end
structure Tri (P:Program) (c:Code) (Z:St) (K:Exit->St->Prop):Prop where
 run: ∀(c0:Ctx) (a:Act) (w:World) (Q:Exit->Act->World->Prop),Rel c0 Z a w->(∀e Z a w,Rel c0 Z a w->K e Z->Q e a w)->c.wpIn q8 0 P Q a w
section
variable {P:Program} {T:Tab}
theorem qaq {x y:Code} {Z:St} {n m:St->Prop} {e:Nat->St->Prop} {r:St->Prop} (h1:Tri P x Z (K3 m e r)) (h2: ∀G,m G->Tri P y G (K3 n e r)):Tri P (.seq x y) Z (K3 n e r):=by
 refine⟨fun c0 a w Q hr hq=>wpIn_seq (h1.run c0 a w _ hr fun ex G a w hr hk=>?_)⟩
 cases ex with
 |normal=>exact(h2 G hk).run c0 a w Q hr hq
 |exit i=>exact hq _ _ _ _ hr hk
 |ret=>exact hq _ _ _ _ hr hk
 | _=>exact hk.elim
theorem zof {x:Code} {Z:St} {K K':Exit->St->Prop} (h:Tri P x Z K) (hk: ∀e G,K e G->K' e G):Tri P x Z K':=
 ⟨fun c0 a w Q hr hq=>h.run c0 a w Q hr fun e G a w hr h=>hq e G a w hr (hk e G h)⟩
theorem zro {id:Nat} {x:Code} {Z:St} {n:St->Prop} {e:Nat->St->Prop} {r:St->Prop}
 (h:Tri P x Z (K3 n (fun i Z=>match q1 i id with|true=>n Z|false=>e i Z) r)):Tri P (.block id x) Z (K3 n e r):=by
 refine⟨fun c0 a w Q hr hq=>wpIn_block (h.run c0 a w _ hr fun ex G a w hr hk=>?_)⟩
 cases ex with
 |normal=>exact hq _ _ _ _ hr hk
 |exit i=>
  have hk:(match q1 i id with|true=>n G|false=>e i G):=hk;simp only[Exit.inBlock]
  cases e2:q1 i id with
  |true=>simp only[e2]at hk;rw[Z4 ((zb _ _).1 e2)];exact hq _ _ _ _ hr hk
  |false=>simp only[e2]at hk;rw[Z5 ((zq _ _).1 e2)];exact hq _ _ _ _ hr hk
 |ret=>exact hq _ _ _ _ hr hk
 | _=>exact hk.elim
theorem zvw {x:Code} {Z:St} {n:St->Prop} {e:Nat->St->Prop} {r:St->Prop} {X:Type} (σm:X->St) (I:X->Prop) (μ:X->Nat) (x₀:X) (h0:I x₀) (hle:leS Z (σm x₀)) (hfr: ∀x,I x->zef (zer (σm x).hp) (σm x).ids =true)
 (h: ∀y,I y->Tri P x (σm y) (K3 (fun G=> ∃y',I y'/\μ y'<μ y/\leS G (σm y')) e r)):Tri P (.loop x) Z (K3 n e r):=by
 refine⟨fun c0 a w Q hr hq=>?_⟩;refine zc5 (F:=⟨q8,.inl rfl⟩) (I:=I) (J:=fun y a w=>Rel c0 (σm y) a w) (μ:=μ) h0 (hr.weaken hle (hfr x₀ h0)) fun y a' w' hy hj=>?_
 refine(h y hy).run c0 a' w' _ hj fun ex G a w hr hk=>?_
 cases ex with
 |normal=>
  obtain⟨y',hy',hlt,hle⟩:=hk;exact⟨y',hy',hr.weaken hle (hfr y' hy'),hlt⟩
 |exit i=>exact hq _ _ _ _ hr hk
 |ret=>exact hq _ _ _ _ hr hk
 | _=>exact hk.elim
theorem zfu (hT:TabOK P T) {c:Ctx} {ops:Array Oper} {rest:List Oper} {Q:Exit->Act->World->Prop} {K:St->Prop} (hQ: ∀Z a w,Rel c Z a w->K Z->wpListIn q8 0 P ops Q rest a w):
 ∀(l:List Oper) (Z:St) (a:Act) (w:World),Rel c Z a w->zzd T (CN P) ops.toList l Z K->wpListIn q8 0 P ops Q (l++rest) a w
 | [],Z,a,w,h,hk=>hQ Z a w h hk
 |o::l,Z,a,w,h,hk=>by
  simp only[zzd,opK1]at hk;rw[List.cons_append];refine wpListIn_step fun K' hK'=>?_
  rcases wp h hk with ⟨hw,hk⟩|⟨hw,hk⟩
  .rw[Z4 hw];obtain⟨σ',hk',hwp⟩:=zic (F:=⟨q8,.inl rfl⟩) hT h hk;exact Oper.wpIn_mono (fun a' w' hr=>hK' _ _ (zfu hT hQ l σ' a' w' hr hk')) (hwp Q)
  .rw[Z5 (by rw[hw];simp)];rw[zab]at hk;exact⟨fun f _=>(Wf.mk q8 (.inl rfl)).ok.fn f,hK' _ _ (zfu hT hQ l _ _ _ (h.skip o) hk)⟩
def qgu:Blk->Bool
 | .dead =>true
 | _=>false
def qav (hp:Hp) (i j:Nat):Bool:=
 qaz [(i,j)]&&(q3 j 999999||q3 1000000 i)&&(q3 i 999999||(q3 1500000 i&&q3 i 1999998))&&qgu (hget hp i)&&(hget hp j).isBuf
theorem Rel.swap {c:Ctx} {sl:List AV} {hp:Hp} {a:Act} {w:World} (h:Rel c ⟨sl,hp⟩ a w) {i j:Nat} (hok:qav hp i j=true):Rel c ⟨zam (sw [(i,j)]) sl,zf0 (sw [(i,j)]) hp⟩ a w:=by
 obtain⟨M,pt,ow,S,hg,hs,hd⟩:=h;simp only[qav,q2,q4]at hok;obtain⟨⟨⟨⟨h1,h2⟩,h3⟩,h4⟩,h5⟩:=hok;have hff: ∀x,sw [(i,j)] (sw [(i,j)] x)=x:=fun x=>qaw x h1
 have hhi: ∀x,1999999<=x->sw [(i,j)] x=x:=fun x hx=>qay h1 hx
 have hsw: ∀x,sw [(i,j)] x=if x=i then j else if x=j then i else x:=fun x=>by
  simp only[sw]
  cases e1:q1 x i with
  |true=>rw[Z4 ((zb _ _).1 e1)]
  |false=>
   rw[Z5 ((zq _ _).1 e1)]
   cases e2:q1 x j with
   |true=>rw[Z4 ((zb _ _).1 e2)]
   |false=>rw[Z5 ((zq _ _).1 e2)]
 have hdead:hget hp i= .dead :=by
  cases e:hget hp i<;>first|rfl|(rw[e]at h4;cases h4)
 have hpi:pt i=none:=hg.ptn (by rw[hdead];rfl);have hoi:ow i=none:=hg.own (by rw[hdead];rfl);have hpj:pt j=none:=hg.ptn (by
  cases e:hget hp j<;>first|rfl|(rw[e]at h5;cases h5))
 have hj1:q3 j 999999=true->j<=999999:=q0;have hc:=hg.toCore.domap (sw [(i,j)]) hff hhi;have hbl: ∀x b,bl (fun x=>pt (sw [(i,j)] x)) (fun x=>ow (sw [(i,j)] x)) x=some b->(x=i/\bl pt ow j=some b)\/(x≠i/\x≠j/\bl pt ow x=some b):=fun x b hb=>by
  have hb:bl pt ow (sw [(i,j)] x)=some b:=hb;rw[hsw]at hb;by_cases e1:x=i
  .rw[Z4 e1]at hb;exact .inl ⟨e1,hb⟩
  .rw[Z5 e1]at hb;by_cases e2:x=j
   .rw[Z4 e2]at hb;unfold bl at hb;rw[hpi,hoi]at hb;cases hb
   .rw[Z5 e2]at hb;exact .inr ⟨e1,e2,hb⟩
 refine⟨M,fun x=>pt (sw [(i,j)] x),fun x=>ow (sw [(i,j)] x),S,?_,?_,hd⟩
 .exact {hc with
   os:=hg.os,tape:=hg.tape,output:=hg.output,size:=hg.size,keep:=hg.keep,m0:=hg.m0,m1:=hg.m1,gl:=hg.gl
   loc:=fun x b hb=>by
    rcases hbl x b hb with ⟨rfl,h6⟩|⟨_,_,h6⟩
    .rcases hg.loc j b h6 with h7|⟨h7,h8⟩
     .exact .inl h7
     .rcases h2 with h2|h2
      .have:=q0 h2;omega
      .exact .inr ⟨h7,q0 h2⟩
    .exact hg.loc x b h6
   farp:=fun x b hx hb=>by
    have hb:pt (sw [(i,j)] x)=some b:=hb;rw[hsw]at hb;by_cases e1:x=i
    .rw[Z4 e1,hpj]at hb;cases hb
    .rw[Z5 e1]at hb;by_cases e2:x=j
     .rw[Z4 e2,hpi]at hb;cases hb
     .rw[Z5 e2]at hb;exact hg.farp x b hx hb
   farw:=fun x b hx hb=>by
    have hb:ow (sw [(i,j)] x)=some b:=hb;rw[hsw]at hb;by_cases e1:x=i
    .subst e1;rcases h3 with h3|h3
     .have:=q0 h3;omega
     .exact .inr ⟨q0 h3.1,q0 h3.2⟩
    .rw[Z5 e1]at hb;by_cases e2:x=j
     .rw[Z4 e2,hoi]at hb;cases hb
     .rw[Z5 e2]at hb;exact hg.farw x b hx hb}
 .intro pt3 ow3 hag;have hag4:Agr hp pt (fun x=>pt3 (sw [(i,j)] x)) ow (fun x=>ow3 (sw [(i,j)] x)):=fun x hx=>by
   have:=hag (sw [(i,j)] x) (by
    show(hget (zf0 (sw [(i,j)]) hp) (sw [(i,j)] x)).isFree =false;rw[wt _ _ hff,zcx];exact hx)
   simp only[hff]at this;exact this
  obtain⟨h6,h7⟩:=hs _ _ hag4;refine⟨(Rs.mapI sl _ fun x _=>⟨rfl,rfl⟩).2 h6,fun x l b cs Ty hl hb hcs=>?_⟩;have hl:hget (zf0 (sw [(i,j)]) hp) x= .cells l:=hl;have hq:=wt (H:=hp) (i:=sw [(i,j)] x) (sw [(i,j)]) (sw [(i,j)]) hff;rw[hff,hl]at hq;obtain⟨m,hm,rfl⟩:=zb7 hq.symm;exact(Rs.mapI m _ fun x _=>⟨rfl,rfl⟩).2 (h7 _ m b cs Ty hm hb hcs)
theorem zjm {res:List ResultVar} {ex:List Nat} {rv:AV} {H':Hp} {c:Code} {sl:List AV} {hp:Hp} (i j:Nat) (hok:qav hp i j=true) (h:SemOK P T res ex rv H' c ⟨zam (sw [(i,j)]) sl,zf0 (sw [(i,j)]) hp⟩):SemOK P T res ex rv H' c ⟨sl,hp⟩:=
 ⟨fun c0 a w Q hr hq=>h.sem c0 a w Q (hr.swap hok) hq⟩
abbrev RM4:=St->(St->Prop)->(Nat->St->Prop)->(St->Prop)->Prop
noncomputable def znd (P:Program) (T:Tab) (sp:List Nat) (id:Nat) (ops:Array Oper) (draw:Bool):RM4:=fun Z n e r=>match zfd id sp with
 |true=>Tri P (.region id ops draw) Z (K3 n (fun _ _=>False) (fun _=>False))
 |false=>zsl T (CN P) id ops draw true Z n e r
def qSeq (_ _:Code) (iha ihb:RM4):RM4:=fun Z n e r=>iha Z (fun Z=>ihb Z n e r) e r
def qbq (c:Operand) (_ _:Code) (iha ihb:RM4):RM4:=fun Z n e r=>match zj Z.sl c with
    | .bool t=> @Bool.rec (fun _=>Prop) (ihb Z n e r) (iha Z n e r) t
    | .ub p q=>(p->iha Z n e r)/\(q->ihb Z n e r)
    | _=>False
def qfo (id:Nat) (_:Code) (ih:RM4):RM4:=fun Z n e r=>ih Z n (fun i Z=>match q1 i id with
 |true=>n Z
 |false=>e i Z) r
def qbp (T:Tab) (c:Code) (ih:RM4):RM4:=fun Z _ e r=> ∃(X:Type) (I:X->Prop) (us:X->List (Nat×AV)) (hu:X->List (Nat×Blk)) (μ:X->Nat) (x₀:X),
 I x₀/\(ze9 (ja c) fun ws=>ze9 (zd T c) fun ds=>zpg ws ds (us x₀) (hu x₀) Z (fun G=>leS Z G))/\
 ∀x,I x->ze9 (ja c) fun ws=>ze9 (zd T c) fun ds=>zpg ws ds (us x) (hu x) Z fun G=>zef (zer G.hp) G.ids=true/\
  ih G (fun σ'=> ∃x',I x'/\μ x'<μ x/\zpg ws ds (us x') (hu x') Z fun τ'=>leS σ' τ') e r
def qNo:RM4:=fun _ _ _ _=>False
noncomputable def zmh (P:Program) (T:Tab) (sp:List Nat) (c:Code):RM4:=
 @Code.rec (fun _=>RM4) (fun Z n _ _=>n Z) (znd P T sp) qSeq qbq qfo (qbp T) (fun _ _ _ _ _ _=>qNo) (fun id Z _ e _=>e id Z) (fun _ _=>qNo) (fun _=>qNo) (fun _=>qNo) (fun Z _ _ r=>r Z) (fun _=>qNo) c
theorem zhn (hT:TabOK P T) (hmx:P.follows .mixedOrders =true) (sp:List Nat): ∀(c:Code) (Z:St) (n:St->Prop) (e:Nat->St->Prop) (r:St->Prop),zmh P T sp c Z n e r->Tri P c Z (K3 n e r):=by
 have hw: ∀(c:Code) (Z:St) (n:St->Prop) (e:Nat->St->Prop) (r:St->Prop),zbh T (CN P) c true Z n e r->Tri P c Z (K3 n e r):=fun c Z n e r h=>by
  rw[zkn,zkm]at h;exact⟨fun c0 a w Q hr hq=>qu hT hmx c true ⟨q8,.inl rfl⟩ c0 _ _ _ a w (fun _=>rfl) hr h hq⟩
 intro c
 induction c with
 |skip=>intro Z n e r h;exact hw .skip Z n e r h
 |region id ops draw=>
  intro Z n e r h;have h:znd P T sp id ops draw Z n e r:=h;unfold znd at h;split at h
  .exact zof h fun ex G hk=>by
    cases ex with
    |normal=>exact hk
    | _=>exact hk.elim
  .exact hw (.region id ops draw) Z n e r h
 |seq a b iha ihb=>
  intro Z n e r h;exact qaq (iha Z (fun Z=>zmh P T sp b Z n e r) e r h) fun G hτ=>ihb G n e r hτ
 |cond c a b iha ihb=>
  intro Z n e r h;have h:qbq c a b (zmh P T sp a) (zmh P T sp b) Z n e r:=h;unfold qbq at h;refine⟨fun c0 ac w Q hr hq=>?_⟩;obtain⟨_,_,_,_,_,_,hrs⟩:=hr.own;have hb:=za hrs c;split at h
  .rename_i t htt;rw[htt]at hb;simp only[R]at hb;refine wpIn_cond hb ?_
   cases t with
   |true=>exact(iha Z n e r h).run c0 ac w Q hr hq
   |false=>exact(ihb Z n e r h).run c0 ac w Q hr hq
  .rename_i p q htt;rw[htt]at hb;simp only[R]at hb;obtain⟨t,hb,h1,h2⟩:=hb;refine wpIn_cond hb ?_
   cases t with
   |true=>exact(iha Z n e r (h.1 (h1 rfl))).run c0 ac w Q hr hq
   |false=>exact(ihb Z n e r (h.2 (h2 rfl))).run c0 ac w Q hr hq
  .exact h.elim
 |block id c ih=>
  intro Z n e r h;exact zro (ih Z n _ r h)
 |loop c ih=>
  intro Z n e r h;have h:qbp T c (zmh P T sp c) Z n e r:=h;unfold qbp at h;obtain⟨X,I,us,hu,μ,x₀,h0,hin,zio⟩:=h;simp only[zkb]at hin zio;rw[zcb]at hin;have hr0:=fun x hx=>(zcb _ _ _ _ _ _).1 (zio x hx)
  refine zvw (fun y=>gen (ja c) (zd T c) (us y) (hu y) Z) I μ x₀ h0 hin (fun x hx=>(hr0 x hx).1) fun y hy=>?_
  refine zof (ih _ _ e r (hr0 y hy).2) fun ex G hk=>?_
  cases ex with
  |normal=>
   obtain⟨y',hy',hlt,hle⟩:=hk;rw[zcb]at hle;exact⟨y',hy',hlt,hle⟩
  |exit i=>exact hk
  |ret=>exact hk
  | _=>exact hk.elim
 |exit id=>intro Z n e r h;exact hw (.exit id) Z n e r h
 |ret=>intro Z n e r h;exact hw .ret Z n e r h
 |rangeFunc f ps a b _ _=>intro Z n e r h;exact h.elim
 |scope b _=>intro Z n e r h;exact h.elim
 |label l=>intro Z n e r h;exact h.elim
 |goto l=>intro Z n e r h;exact h.elim
 |refuse w=>intro Z n e r h;exact h.elim
theorem zwb (hT:TabOK P T) (hmx:P.follows .mixedOrders =true) (sp:List Nat) {res:List ResultVar} {ex:List Nat} {r:AV} {H':Hp} {c:Code} {sl:List AV} {hp:Hp}
 (h:ziv sl fun sl=>zrc hp fun hp=>zmh P T sp c ⟨sl,hp⟩ (fun Z=>zhf T res ex r H' Z) (fun _ _=>False) (fun Z=>zhf T res ex r H' Z)):SemOK P T res ex r H' c ⟨sl,hp⟩:=by
 rw[qy,jy]at h;have:=zhn hT hmx sp c _ _ _ _ h;rw[zzw]at this;exact⟨fun c0 a w Q hr hq=>this.run c0 a w Q hr hq⟩
end
def OpT (P:Program) (o:Oper) (Z σ':St):Prop:=o.guard=none/\ ∀(c0:Ctx) (a:Act) (w:World) (Q:Exit->Act->World->Prop),Rel c0 Z a w->o.wpIn q8 0 P a w (Rel c0 σ') Q
def depB (ops:Array Oper):Bool:=(List.range ops.size).all fun i=>match ops[i]? with
 |some o=>o.after.all fun e=> !Region.binds .any e||Nat.blt e.on i
 |none=>true
def qbb (L:Nat->Bool) (i:Nat):Nat->Bool:=fun j=>bif q1 j i then true else L j
section
variable {P:Program} {T:Tab}
theorem qp (hT:TabOK P T) {o:Oper} {Z σ':St} (hg:o.guard=none) (h:zn1 T (CN P) o Z fun G=>G=σ'):OpT P o Z σ':=by
 refine⟨hg,fun c0 a w Q hr=>?_⟩;obtain⟨r,bs,h1,h2⟩:=zc1 (F:=⟨q8,.inl rfl⟩) hT hr h;rw[h1]at h2;exact h2 Q
theorem OpT.sound {ops:Array Oper} {Q:Exit->Act->World->Prop} {i:Nat} {o:Oper} {Z σ':St} (hi:ops[i]? =some o) (h:OpT P o Z σ') {c0:Ctx} {a:Act} {w:World} (hr:Rel c0 Z a w) {K:Act->World->Prop} (hK: ∀a w,Rel c0 σ' a w->K a w):
 wpOpIn q8 0 P ops Q i K a w:=by
 unfold wpOpIn;simp only[hi];rcases wp hr (ops:=ops) (run:=fun _=>True) (skip:=fun _=>False) (o:=o) (by unfold zae;rw[h.1];trivial)with ⟨hw,_⟩|⟨_,hk⟩
 .rw[Z4 hw];exact Oper.wpIn_mono hK (h.2 c0 a w Q hr)
 .exact hk.elim
theorem zme {ops:Array Oper} (h:depB ops=true) {i:Nat} {o:Oper} (ho:ops[i]? =some o) {e:Edge} (he:e∈o.after) (hb:Region.binds .any e=true):e.on<i:=by
 unfold depB at h;rw[List.all_eq_true]at h;have hi:=(Array.getElem?_eq_some_iff.1 ho).1;have h1:=h i (List.mem_range.2 hi);rw[ho]at h1;simp only[Array.all_eq_true_iff_forall_mem]at h1;have h2:=h1 e he;simp only[q4,Bool.not_eq_true',hb,Bool.true_eq_false,false_or]at h2;rw[q7]at h2;exact h2
def qhi (listed:Array Bool) (n:Nat):Nat:=(List.range n).countP fun i=> !listed.getD i true
theorem zpu {listed:Array Bool} {n i:Nat} (hi:i<n) (hu:listed.getD i true=false):qhi (listed.setIfInBounds i true) n<qhi listed n:=by
 unfold qhi;have hle: ∀l:List Nat,(l.countP fun j=> !(listed.setIfInBounds i true).getD j true)<=l.countP fun j=> !listed.getD j true:=fun l=>by
  refine List.countP_mono_left fun j _ hj=>?_
  by_cases hij:i=j
  .subst hij;simp[hu]
  .rwa [getD_set_ne true hij]at hj
 have hmem:i∈List.range n:=List.mem_range.2 hi;obtain⟨s,t,hst⟩:=List.append_of_mem hmem;rw[hst,List.countP_append,List.countP_append,List.countP_cons,List.countP_cons];have h1:=hle s;have h2:=hle t;have h3:(listed.setIfInBounds i true).getD i true=true:=by
  rcases q5 i listed.size with h|h
  .simp[h]
  .simp[Array.getElem?_eq_none h]
 simp only[h3,hu,Bool.not_true,Bool.not_false,if_true,Bool.false_eq_true,if_false];omega
theorem zq5 {ops:Array Oper} (hdep:depB ops=true) {listed:Array Bool} (hr:Region.ready .any ops listed= []) (hs:listed.size=ops.size): ∀i,listed.getD i true=true:=by
 intro i
 induction i using Nat.strongRecOn with
 | _ i ih=>
   cases h:listed.getD i true with
   |true=>rfl
   |false=>
    exfalso;have hi:i<listed.size:=by
     rcases q5 i listed.size with h'|h'
     .exact h'
     .simp[Array.getElem?_eq_none h']at h
    have ho:ops[i]? =some ops[i]:=Array.getElem?_eq_getElem (by omega);have:i∈Region.ready .any ops listed:=mem_ready.2 ⟨h,_,ho,fun e he hb=>by
     have h1:=zme hdep ho he hb;have h2:=ih e.on h1;have h3:e.on<listed.size:=by omega
     simpa[h3]using h2⟩
    rw[hr]at this;cases this
end
theorem zci.bool {V:ka} {u:Bool} {v:Value} (h:zci V .bool u v):v= .bool u:=by
 obtain⟨vs,h1,h2,h3⟩:=h
 match vs,h1 with
 | [y],_=>
   have:=h3 0 (.bool u) y rfl rfl;cases this
   exact h2
section
variable {P:Program}
theorem OpT.to {o:Oper} {Z G σ':St} (h:OpT P o Z G) (e:G=σ'):OpT P o Z σ':=e▸h
end
section
variable {P:Program} {T:Tab}
end
theorem zuv {M:Nat->Prop} {pt:Nat->Option Nat} {ow:Nat->Option Value} {S:Nat->Prop} {H:Hp} {w:World} (hg:zli (zq2 H)=true) (h:Core M pt ow S H w):Core M pt ow (fun _=>False) H w:= {
 fresh:=h.fresh,mt:=h.mt,inj:=h.inj,gm:=fun b hb=>hb.elim,gd:=fun i b _ hb=>hb,dpt:=h.dpt,dow:=h.dow
 blk:=fun i=>by
  have h1:=h.blk i;have h2:=zlh hg i
  revert h1 h2
  generalize hget H i=b;intro h1 h2
  cases b with
  |gst J=>exact absurd rfl (h2 J)
  |free=>trivial
  |dead=>trivial
  |cells l=>exact h1
  |buf e k xs=>exact h1
  |map kk vk m=>exact h1}
theorem zqx {P:Program} {f:Nat} {H H':Hp} {A:List AV} {r:AV} (hg:zli (zq2 H)=true) (h:FnRB P f [] H A r H'):zmq P f H A r H':=by
 refine⟨h.1,fun w M pt ow S vs hcore hcont hargs=>(h.2 w M pt ow vs (zuv hg hcore) hcont hargs).mono ?_⟩;rintro e w' ⟨v,M',pt',ow',he,hc,hk,hr,hL⟩;exact⟨v,M',pt',ow',fun _=>False,he,hc,hk,hr,hL.os,hL.tape,hL.output,hL.size,fun b hb hn _=>hL.same b hb hn,hL.mm,hL.mn,fun b hb=>hb.elim,
  fun i b hb=> .inl (hL.lept i b hb),fun i x hx=>(hL.leow i x hx).elim .inl fun h=>by cases h.1⟩
