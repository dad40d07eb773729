/-
  A walk in parts: the body is cut behind some of its statements; each part is carried out by itself, from a state that says no more than the rest wants.
-/
import Derived.Test.YtbolipecnhlnnaaGreatDoorRSxY
set_option linter.unusedVariables false
set_option linter.unusedSimpArgs false
open Bool renaming and_eq_true->q3,false_eq_true->q9,or_eq_true->qC
open List renaming mem_cons->q6,mem_append->q7,mem_singleton->qd,getElem_mem->qn,cons_append->qA
open Nat renaming le_of_ble_eq_true->q2,ble->q4,beq->q5,le_refl->qB,le_trans->qD
namespace Go.Sx
open Go
def Fin (T:Tab) (res:List ResultVar) (ex:List Nat) (r:AV) (H':Hp):Exit->St->Prop:=fun e σ=>match e with
 | .normal =>zhy T res ex r H' σ
 | .ret =>zhy T res ex r H' σ
 | _=>False
structure SemOK (P:Program) (T:Tab) (res:List ResultVar) (ex:List Nat) (r:AV) (H':Hp) (c:Code) (σ:St):Prop where
 sem: ∀(c0:Ctx) (a:Act) (w:World) (Q:Exit->Act->World->Prop),Rel c0 σ a w->(∀e σ a w,Rel c0 σ a w->Fin T res ex r H' e σ->Q e a w)->c.wpIn Fence.wide 0 P Q a w
def fnC (T:Tab) (ex:List Nat) (c:Code) (n:Nat) (H:Hp) (A:List AV) (H':Hp) (W:St->Prop):Prop:=
 zj9 (A++zf1 (n-A.length)) fun sl=>zrs (zdf (qj (zc T c)) H) fun hp=>
  match zcw (zc T c) (qs A++zcc H),zcw (zc T c) (keys H),far 0 (keys H),far ex.length (keys H'),uh (zrh H),zdt (keys H'),qdt ex&&zdt ex with
  |true,true,true,true,true,true,true=>W ⟨sl,hp⟩
  | _,_,_,_,_,_,_=>False
abbrev RM3:=Bool->St->(St->Prop)->(Nat->St->Prop)->(St->Prop)->Prop
def K3 (n:St->Prop) (e:Nat->St->Prop) (r:St->Prop):Exit->St->Prop:=fun x σ=>match x with
 | .normal =>n σ
 | .exit i=>e i σ
 | .ret =>r σ
 | _=>False
def sSkip:RM3:=fun _ σ n _ _=>n σ
noncomputable def zst (T:Tab) (C:Con) (_:Nat) (ops:Array Oper) (draw:Bool):RM3:=fun _ σ n _ _=> @Bool.rec (fun _=>Prop)
 (opsR T C ops.toList ops.toList σ fun σ=>xd (zwa ops.toList) σ n)
 (opsS T C ops.toList ops.toList σ fun fps σ=>zxt 0 ops.toList fps=true/\Region.lexB .any ops=true/\xd (zwa ops.toList) σ n) draw
def sSeq (_ _:Code) (iha ihb:RM3):RM3:=fun top σ n e r=>iha top σ (fun σ=>ihb top σ n e r) e r
def qa7 (c:Operand) (_ _:Code) (iha ihb:RM3):RM3:=fun top σ n e r=>match zj σ.sl c with
    | .bool t=> @Bool.rec (fun _=>Prop) (ihb top σ n e r) (iha top σ n e r) t
    | .ub p q=>(p->iha top σ n e r)/\(q->ihb top σ n e r)
    | _=>False
def qev (id:Nat) (_:Code) (ih:RM3):RM3:=fun top σ n e r=>ih top σ n (fun i σ=>match q5 i id with
 |true=>n σ
 |false=>e i σ) r
def qa6 (T:Tab) (c:Code) (ih:RM3):RM3:=fun top σ _ e r=> ∃(X:Type) (I:X->Prop) (us:X->List (Nat×AV)) (hu:X->List (Nat×Blk)) (μ:X->Nat) (x₀:X),
 I x₀/\(ze3 (ji c) fun ws=>ze3 (zc T c) fun ds=>zpj ws ds (us x₀) (hu x₀) σ (fun τ=>leS σ τ))/\
 ∀x,I x->ze3 (ji c) fun ws=>ze3 (zc T c) fun ds=>zpj ws ds (us x) (hu x) σ fun τ=>zcw (zfk τ.hp) τ.ids=true/\
  ih top τ (fun σ'=> ∃x',I x'/\μ x'<μ x/\zpj ws ds (us x') (hu x') σ fun τ'=>leS σ' τ') e r
def zsu (T:Tab) (C:Con) (f:Operand) (ps:Array Tmp) (asg body:Code) (iha ihb:RM3):RM3:=fun top σ n e r=>match top,zj σ.sl f with
    |true,.fn g caps=> ∃(is:List Nat) (X Y:Type) (hb:X->List Blk) (live:X->Bool) (pend:X->Code) (args:Y->List AV) (next:X->Y->X) (x₀ xE:X) (rv:AV) (ib:List Blk),
      zw σ.hp is=hb x₀/\live x₀=true/\rfOk T σ.hp g is caps ib=true/\zcw (zc T asg++zc T body) (zey is)=true/\(∀x,zaq (hb x)=true/\zbj is (hb x)=true)/\(∀y,zv5 (qs (args y))=true)/\
      (∀(l:Nat) (J:X->GJ),(∀x y,live x=true->C.cb l [(qu,.gst (J x))] (args y) (.bool (live (next x y))) [(qu,.gst (J (next x y)))])->
        C.fn g ((qu,.gst (J x₀))::vg (nub (qs caps)) (zw σ.hp (nub (qs caps)))) (.cb l::caps) rv ((qu,.gst (J xE))::vg (nub (qs caps)) ib))/\
      (∀x y,live x=true->zfc ps.toList (args y) (zfg is σ.sl) fun sl=>
        iha false ⟨sl,zdf (qj (zc T asg++zc T body)) (vg (zey is) (hb x))⟩ (fun τ=>
         ihb false τ (fun τ=>live (next x y)=true/\zno is (hb (next x y)) τ) (fun id τ=>live (next x y)=false/\pend (next x y)= .exit id/\zno is (hb (next x y)) τ)
          (fun τ=>live (next x y)=false/\pend (next x y)= .ret /\zno is (hb (next x y)) τ)) (fun _ _=>False) (fun _=>False))/\
      (match σ with
        |⟨sl,hp⟩=>za1 hp is (hb xE) fun hp=>za1 hp (nub (qs caps)) ib fun hp=> @Bool.rec (fun _=>Prop)
          (match pend xE with
            | .exit id=>e id ⟨sl,hp⟩
            | .ret =>r ⟨sl,hp⟩
            | _=>False)
          (n ⟨sl,hp⟩) (live xE))
    | _,_=>False
def sExit (id:Nat):RM3:=fun _ σ _ e _=>e id σ
def sRet:RM3:=fun _ σ _ _ r=>r σ
def sNo:RM3:=fun _ _ _ _ _=>False
noncomputable def zae (T:Tab) (C:Con) (c:Code):RM3:=
 @Code.rec (fun _=>RM3) sSkip (zst T C) sSeq qa7 qev (qa6 T) (zsu T C) sExit (fun _ _=>sNo) (fun _=>sNo) (fun _=>sNo) sRet (fun _=>sNo) c
theorem zch (T:Tab) (C:Con): ∀(c:Code) (top:Bool) (σ:St) (n:St->Prop) (e:Nat->St->Prop) (r:St->Prop),zae T C c top σ n e r=zax T C c top σ (K3 n e r):=by
 intro c
 induction c with
 |skip=>intro top σ n e r;rfl
 |region id ops draw=>intro top σ n e r;cases draw<;>rfl
 |seq a b iha ihb=>
  intro top σ n e r;show zae T C a top σ (fun σ=>zae T C b top σ n e r) e r=zax T C a top σ (fun x σ=>match x with
   | .normal =>zax T C b top σ (K3 n e r)
   | .exit i=>K3 n e r (.exit i) σ
   | .ret =>K3 n e r .ret σ
   | _=>False)
  have hk:K3 (fun σ=>zae T C b top σ n e r) e r=fun x σ=>match x with
   | .normal =>zax T C b top σ (K3 n e r)
   | .exit i=>K3 n e r (.exit i) σ
   | .ret =>K3 n e r .ret σ
   | _=>False:=by
   funext x σ
   cases x<;>first|rfl|exact ihb _ _ _ _ _
  rw[iha,hk]
 |cond c a b iha ihb=>
  intro top σ n e r;show qa7 c a b (zae T C a) (zae T C b) top σ n e r=zs8 c a b (zax T C a) (zax T C b) top σ (K3 n e r);simp only[qa7,zs8,iha,ihb];rfl
 |block id c ih=>
  intro top σ n e r;show zae T C c top σ n (fun i σ=>match q5 i id with|true=>n σ|false=>e i σ) r=zax T C c top σ (fun x σ=>match x with
   | .normal =>K3 n e r .normal σ
   | .exit i=>match q5 i id with
     |true=>K3 n e r .normal σ
     |false=>K3 n e r (.exit i) σ
   | .ret =>K3 n e r .ret σ
   | _=>False)
  have hk:K3 n (fun i σ=>match q5 i id with|true=>n σ|false=>e i σ) r=fun x σ=>match x with
   | .normal =>K3 n e r .normal σ
   | .exit i=>match q5 i id with
     |true=>K3 n e r .normal σ
     |false=>K3 n e r (.exit i) σ
   | .ret =>K3 n e r .ret σ
   | _=>False:=by funext x σ;cases x<;>rfl
  rw[ih,hk]
 |loop c ih=>
  intro top σ n e r;show qa6 T c (zae T C c) top σ n e r=zs6 T c (zax T C c) top σ (K3 n e r);simp only[qa6,zs6,ih,zj7];have hk: ∀(A:St->Prop),K3 A e r=fun x σ=>match x with
   | .normal =>A σ
   | .exit i=>(match Exit.exit i with| .normal =>n σ| .exit i=>e i σ| .ret =>r σ| _=>False)
   | .ret =>(match Exit.ret with| .normal =>n σ| .exit i=>e i σ| .ret =>r σ| _=>False)
   | _=>False:=fun A=>by funext x σ;cases x<;>rfl
  simp only[hk];rfl
 |rangeFunc f ps a b iha ihb=>
  intro top σ n e r;show zsu T C f ps a b (zae T C a) (zae T C b) top σ n e r=zkz T C f ps a b (zax T C a) (zax T C b) top σ (K3 n e r);simp only[zsu,zkz,iha,ihb];have hk: ∀(A B:St->Prop) (E:Nat->St->Prop),K3 A E B=fun x σ=>match x with
   | .normal =>A σ
   | .exit i=>E i σ
   | .ret =>B σ
   | _=>False:=fun A B E=>by funext x σ;cases x<;>rfl
  have hk2: ∀(A:St->Prop),K3 A (fun _ _=>False) (fun _=>False)=fun x σ=>match x with
   | .normal =>A σ
   | _=>False:=fun A=>by funext x σ;cases x<;>rfl
  cases top with
  |false=>rfl
  |true=>simp only[hk2];simp only[hk];rfl
 |exit id=>intro top σ n e r;rfl
 |scope b ih=>intro top σ n e r;rfl
 |label l=>intro top σ n e r;rfl
 |goto l=>intro top σ n e r;rfl
 |ret=>intro top σ n e r;rfl
 |refuse w=>intro top σ n e r;rfl
def zl4:Nat->Code->Code
 |0,c=>c
 |n+1,.seq _ y=>zl4 n y
 | _+1,c=>c
def zr5:Nat->Code->Code
 |0,_=> .skip
 |n+1,.seq x y=> .seq x (zr5 n y)
 | _+1,_=> .refuse ""
def fcS:Code->(Code->Prop)->Prop
 | .seq a b,k=>fcS b fun b=>k (.seq a b)
 |c,k=>k c
theorem qch: ∀(c:Code) (k:Code->Prop),fcS c k<->k c:=by
 intro c
 induction c with
 |seq a b _ ihb=>intro k;show fcS b _<->_;rw[ihb]
 | _=>intro k;exact Iff.rfl
section
variable {P:Program} {T:Tab}
theorem zma (hT:TabOK P T) (hmx:P.follows .mixedOrders =true) {c:Ctx} {K:Exit->St->Prop} {Q:Exit->Act->World->Prop}: ∀(n:Nat) (code:Code) (σ:St) (a:Act) (w:World),
 Rel c σ a w->wv T (CN P) true (zr5 n code) σ K->(∀σ a w,Rel c σ a w->K .normal σ->(zl4 n code).wpIn Fence.wide 0 P Q a w)->(∀e σ a w,Rel c σ a w->e≠ .normal ->K e σ->Q e a w)->code.wpIn Fence.wide 0 P Q a w
 |0,code,σ,a,w,hr,h,hn,_=>hn σ a w hr (by simpa only[zr5,wv]using h)
 |n+1,code,σ,a,w,hr,h,hn,hq=>by
  cases code with
  |seq x y=>
   simp only[zr5,wv]at h;refine wpIn_seq (zx hT hmx x true ⟨Fence.wide,.inl rfl⟩ c σ _ _ a w (fun _=>rfl) hr h fun e σ' a' w' hr' hk'=>?_)
   cases e with
   |normal=>exact zma hT hmx n y σ' a' w' hr' hk' hn hq
   |exit i=>exact hq _ _ _ _ hr' (by simp) hk'
   |ret=>exact hq _ _ _ _ hr' (by simp) hk'
   | _=>exact hk'.elim
  | _=>exact h.elim
theorem zzn (T:Tab) (res:List ResultVar) (ex:List Nat) (r:AV) (H':Hp):K3 (fun σ=>zhy T res ex r H' σ) (fun _ _=>False) (fun σ=>zhy T res ex r H' σ)=Fin T res ex r H':=by
 funext x σ;cases x<;>rfl
theorem yc (hT:TabOK P T) (hmx:P.follows .mixedOrders =true) {res:List ResultVar} {ex:List Nat} {r:AV} {H':Hp} {c:Code} {sl:List AV} {hp:Hp}
 (h:zj9 sl fun sl=>zrs hp fun hp=>zae T (CN P) c true ⟨sl,hp⟩ (fun σ=>zhy T res ex r H' σ) (fun _ _=>False) (fun σ=>zhy T res ex r H' σ)):SemOK P T res ex r H' c ⟨sl,hp⟩:=by
 rw[vl,kd,zch,zcg,zzn]at h;refine⟨fun c0 a w Q hr hq=>?_⟩;exact zx hT hmx c true ⟨Fence.wide,.inl rfl⟩ c0 _ _ _ a w (fun _=>rfl) hr h hq
theorem yd (hT:TabOK P T) (hmx:P.follows .mixedOrders =true) {res:List ResultVar} {ex:List Nat} {r:AV} {H':Hp} {c:Code} {sl:List AV} {hp:Hp} (n:Nat) {X:Type} (σm:X->St)
 (hfr: ∀x,zcw (zfk (σm x).hp) (σm x).ids =true)
 (h1:zj9 sl fun sl=>zrs hp fun hp=>fcS (zr5 n c) fun pc=>zae T (CN P) pc true ⟨sl,hp⟩ (fun σ=> ∃x,leS σ (σm x)) (fun _ _=>False) (fun σ=>zhy T res ex r H' σ))
 (h2: ∀x,SemOK P T res ex r H' (zl4 n c) (σm x)):SemOK P T res ex r H' c ⟨sl,hp⟩:=by
 rw[vl,kd,qch,zch,zcg]at h1;refine⟨fun c0 a w Q hr hq=>?_⟩;refine zma hT hmx n c _ a w hr h1 (fun σ a w hr hk=>?_) (fun e σ a w hr hne hk=>?_)
 ·obtain⟨x,hx⟩:=hk;exact(h2 x).sem c0 a w Q (hr.weaken hx (hfr x)) hq
 ·cases e with
  |normal=>exact absurd rfl hne
  |ret=>exact hq _ _ _ _ hr hk
  | _=>exact hk.elim
variable {c:Ctx} {σ:St} {a:Act} {w:World}
open Classical in
set_option maxHeartbeats 1000000 in
theorem jc (hT:TabOK P T) (hmx:P.follows .mixedOrders =true) {f:Nat} {fn:Func} {code:Code} (hf:P.funcs[f]? =some fn) (hb:fn.body=some code) (hname:(fn.name== "runtime.NumGoroutine")=false)
 {ex:List Nat} {H H':Hp} {A:List AV} {r:AV} (h:fnC T ex code fn.ntmps H A H' (SemOK P T fn.results.toList ex r H' code)):zkj P f H A r H':=by
 unfold fnC at h;rw[vl,kd]at h;split at h
 case h_2=>exact h.elim
 rename_i hd1 hd2 hfar hfar' hnf hnod hex;have hk:=h;rw[wu]at hd1 hd2;rw[q3]at hex;have hexlo:=zjx hex.1;have hexnd:=zak hex.2;have hnod:=zak hnod;rw[znt]at hnf;refine⟨⟨fn,hf,by rw[hb];rfl,hname⟩,fun w M pt ow S vs hcore hcont hargs=>?_⟩
 let c0:Ctx:= {M0:=M,w0:=w,mine:=fun b=>(∃i,bl pt ow i=some b)\/S b,sm:=S,pt0:=pt,ow0:=ow}
 have hkout: ∀i,jw H i->i∉zc T code:=fun i hi hj=>hd2 i hj (zc8.2 hi)
 have hout: ∀i x,hget H i=x->x≠ .dead ->hget (zdf (qj (zc T code)) H) i=x:=fun i x hx hn=>by
  rw[zr (hkout i (zm (by rw[hx];exact hn)))];exact hx
 have hback: ∀i x,hget (zdf (qj (zc T code)) H) i=x->x≠ .free ->hget H i=x:=fun i x hx hn=>by
  by_cases hi:i∈zc T code
  ·rw[jq hi]at hx;exact absurd hx.symm hn
  ·rw[zr hi]at hx;exact hx
 have hlen:=hargs.length;have hkpt: ∀i,(hget H i).isPt =true->jw H i:=fun i hi=>zm fun e=>by rw[e]at hi;cases hi
 have hkow: ∀i,(hget H i).isBuf =true->jw H i:=fun i hi=>zm fun e=>by rw[e]at hi;cases hi
 have hg0:Good c0 M pt ow S (zdf (qj (zc T code)) H) w:= {
  os:=rfl,tape:=rfl,output:=rfl,size:=qB _,keep:=fun _ _ _=>rfl,fresh:=hcore.fresh,m0:=fun _ h=>h,m1:=hcore.fresh,mt:=hcore.mt
  gm:=hcore.gm,gd:=hcore.gd,gl:=fun b hb=> .inr ⟨.inr hb,hb⟩
  loc:=fun i b hb=> .inr ⟨.inl ⟨i,hb⟩,by
   have hk:jw H i:=by
    unfold bl at hb
    cases hq:pt i with
    |some z=>exact hkpt i (hcore.dpt i z hq)
    |none=>
     rw[hq]at hb
     cases hq2:ow i with
     |none=>rw[hq2]at hb;cases hb
     |some z=>exact hkow i (hcore.dow i z hq2)
   exact(zkd hfar i (zc8.2 hk)).1⟩
  farp:=fun _ _ _ h=>h,farw:=fun _ _ _ h=> .inl h
  inj:=hcore.inj
  dpt:=fun i b hb=>by rw[zr (hkout i (hkpt i (hcore.dpt i b hb)))];exact hcore.dpt i b hb
  dow:=fun i b hb=>by rw[zr (hkout i (hkow i (hcore.dow i b hb)))];exact hcore.dow i b hb
  blk:=fun i=>by
   by_cases hi:i∈zc T code
   ·rw[jq hi];trivial
   ·rw[zr hi];exact hcore.blk i}
 have hfree: ∀i,i∈qs A++zcc H->(hget (zdf (qj (zc T code)) H) i).isFree =false:=fun i hi=>by
  rw[zr fun hj=>hd1 i hj hi];exact zc2 hnf
 have hrel:Rel c0 ⟨A++zf1 (fn.ntmps-A.length),zdf (qj (zc T code)) H⟩ {tmps:=vs.toArray++Array.replicate (fn.ntmps-vs.toArray.size) undef,defers:= []} w:=by
  refine⟨M,pt,ow,S,hg0,fun pt' ow' hag=>?_,.nil⟩;have hle: ∀is:List Nat,(∀i∈is,i∈qs A++zcc H)->Env.le ⟨zn w M,pt,ow⟩ ⟨zn w M,pt',ow'⟩ is:=fun is his=>⟨fun _ _ h=>h,fun i hi=>by
   have:=hag i (hfree i (his i hi));exact⟨fun b hb=>by change pt' i=some b at hb;rw[this.1]at hb;exact hb,fun b hb=>by change ow' i=some b at hb;rw[this.2]at hb;exact hb⟩⟩
  refine⟨?_,fun i l b cs Ty hl hb hcs=>?_⟩
  ·have h1:=hargs.imp A _ (hle _ fun i hi=>by simp[hi]);have h2:=znu (ρ:=⟨zn w M,pt',ow'⟩) (fn.ntmps-A.length);have:=h1.append h2;rw[hlen]at this⊢;simpa using this
  ·have hl':=hback i _ hl (by simp);exact(hcont i l b cs Ty hl' hb hcs).imp _ _ (hle _ fun j hj=>by simp only[q7];exact .inr (ww hl' j hj))
 have hfin: ∀(σ:St) (a:Act) (w':World),Rel c0 σ a w'->zhy T fn.results.toList ex r H' σ->LeavesInM Fence.wide 0 P fn a.tmps (Ans w M pt ow S r H') a.defers .returning w':=by
  intro σ a w' hr hK;obtain⟨_,_,_,_,_,_,Ds,hDs,_⟩:=id hr;obtain⟨tm,ds⟩:=a;simp only at hDs;subst hDs;refine zbk tm (fun w' hr=>?_) Ds w' hr;unfold zhy at hK;obtain⟨l1,hK,_⟩:=zah hT hr _ _ hK;obtain⟨σ',hr',hK⟩:=ui hr hK;obtain⟨l,⟨hleA,hleH⟩,vs',hrun,hrs⟩:=zah hT hr' _ _ hK;obtain⟨M1,pt1,ow1,S1,hg,hs,_⟩:=hr';obtain⟨v,hv,hRv⟩:=zgd hrun (hrs M1 pt1 ow1 S1 hg hs);refine⟨v,hv,?_⟩;obtain⟨ptN,owN,hgN,hless,hcel⟩:=hg.weaken (zfu hleH);have hexI: ∀i,i∈keys H'->(i<2000000/\(1000000<=i/\(i<1500000\/1999999<=i))/\exI ex i=i)\/(2000000<=i/\ ∃h:i-2000000<ex.length,exI ex i=ex[i-2000000]):=fun i hi=>by
   obtain⟨h1,h2,h2'⟩:=zkd hfar' i hi;rcases Nat.lt_or_ge i 2000000 with h3|h3
   ·exact .inl ⟨h3,⟨h1,h2'⟩,zzp h3⟩
   ·exact .inr ⟨h3,by omega,qgk h3 h2⟩
  have hexin: ∀i,i∈keys H'->2000000<=i->exI ex i∈ex/\exI ex i<=999998:=fun i hi h2=>by
   rcases hexI i hi with h|⟨_,h3,h4⟩
   ·omega
   ·rw[h4];exact⟨qn _,hexlo _ (qn _)⟩
  have hinj: ∀i,i∈keys H'-> ∀j∈keys H',exI ex j=exI ex i->j=i:=fun i hi j hj e=>by
   rcases hexI i hi with ⟨h1,h2,h3⟩|⟨h1,h2,h3⟩<;>rcases hexI j hj with ⟨h4,h5,h6⟩|⟨h4,h5,h6⟩
   ·rw[h3,h6]at e;exact e
   ·have:=(hexin j hj h4).2;rw[h3]at e;omega
   ·have:=(hexin i hi h1).2;rw[h6]at e;omega
   ·rw[h3,h6]at e;have:=(List.getElem_inj hexnd).1 e;omega
  have hgetm: ∀i,i∈keys H'->hget (zfr (exI ex) H') (exI ex i)=(hget H' i).mapI (exI ex):=fun i hi=>zgv _ hi (hinj i hi)
  have hkeyH': ∀i,hget H' i≠ .dead ->i∈keys H':=fun i hi=>zc8.2 (zm hi)
  have hfarp: ∀i b,(1000000<=i/\(i<1500000\/1999999<=i))->ptN i=some b->pt i=some b:=fun i b hi=>hgN.farp i b hi.1
  have hfarw: ∀i b,(1000000<=i/\(i<1500000\/1999999<=i))->owN i=some b->ow i=some b:=fun i b hi hb=>by
   rcases hgN.farw i b hi.1 hb with h1|h1
   ·exact h1
   ·omega
  have hblf: ∀i b,(1000000<=i/\(i<1500000\/1999999<=i))->bl ptN owN i=some b->bl pt ow i=some b:=fun i b hi hb=>by
   unfold bl at hb⊢
   cases hq:ptN i with
   |some z=>rw[hq]at hb;rw[hfarp i z hi hq];exact hb
   |none=>
    rw[hq]at hb
    cases hq2:owN i with
    |none=>rw[hq2]at hb;cases hb
    |some z=>
     rw[hq2]at hb;have h1:=hfarw i z hi hq2;rw[hcore.ptow h1,h1];exact hb
  have hbln: ∀i b,i<=999998->bl ptN owN i=some b->w.heap.size<=b:=fun i b hi hb=>by
   rcases hgN.loc i b hb with h1|h1
   ·exact h1
   ·have:=h1.2;omega
  let ptF:Nat->Option Nat:=fun i=>if i∈keys H' then ptN (exI ex i)else none
  let owF:Nat->Option Value:=fun i=>if i∈keys H' then owN (exI ex i)else none
  let MF:Nat->Prop:=fun b=>M b\/S1 b\/ ∃i,i∈ex/\bl ptN owN i=some b
  have hF: ∀i,i∈keys H'->ptF i=ptN (exI ex i)/\owF i=owN (exI ex i):=fun i hi=>by simp only[ptF,owF,if_pos hi];exact⟨trivial,trivial⟩
  have hFp: ∀i b,ptF i=some b->i∈keys H'/\ptN (exI ex i)=some b:=fun i b hb=>by
   by_cases hi:i∈keys H'
   ·exact⟨hi,by rw[(hF i hi).1]at hb;exact hb⟩
   ·simp only[ptF,if_neg hi]at hb;cases hb
  have hFw: ∀i b,owF i=some b->i∈keys H'/\owN (exI ex i)=some b:=fun i b hb=>by
   by_cases hi:i∈keys H'
   ·exact⟨hi,by rw[(hF i hi).2]at hb;exact hb⟩
   ·simp only[owF,if_neg hi]at hb;cases hb
  have hFb: ∀i b,bl ptF owF i=some b->i∈keys H'/\bl ptN owN (exI ex i)=some b:=fun i b hb=>by
   by_cases hi:i∈keys H'
   ·exact⟨hi,by simpa only[bl,(hF i hi).1,(hF i hi).2]using hb⟩
   ·simp only[bl,ptF,owF,if_neg hi]at hb;cases hb
  have hMF1: ∀b,MF b->M1 b:=fun b hb=>by
   rcases hb with h1|h1|⟨i,_,h1⟩
   ·exact hgN.m0 b h1
   ·exact hgN.gm b h1
   ·exact hgN.mt i b h1
  have hV: ∀b o,zn w' M1 b o->zn w' MF b o:=zt fun b o hm hb=>⟨fun h'=>hm (hMF1 b h'),hb⟩
  have hR1: ∀(x:AV) (y:Value),R ⟨zn w' M1,ptN,owN⟩ (x.mapI (exI ex)) y->R ⟨zn w' MF,ptF,owF⟩ x y:=fun x y hx=>by
   have h1:=(R.mapI (V:=zn w' M1) (f:=exI ex) (pt:=fun i=>ptN (exI ex i)) (ow:=fun i=>owN (exI ex i)) (pt':=ptN) (ow':=owN) x y fun i _=>⟨rfl,rfl⟩).1 hx;exact h1.imp x y ⟨hV,fun i _=>⟨fun b hb=>(hFp i b hb).2,fun b hb=>(hFw i b hb).2⟩⟩
  have hR2: ∀(x:List AV) (y:List Value),Rs ⟨zn w' M1,ptN,owN⟩ (zad (exI ex) x) y->Rs ⟨zn w' MF,ptF,owF⟩ x y:=fun x y hx=>by
   have h1:=(Rs.mapI (V:=zn w' M1) (f:=exI ex) (pt:=fun i=>ptN (exI ex i)) (ow:=fun i=>owN (exI ex i)) (pt':=ptN) (ow':=owN) x y fun i _=>⟨rfl,rfl⟩).1 hx;exact h1.imp x y ⟨hV,fun i _=>⟨fun b hb=>(hFp i b hb).2,fun b hb=>(hFw i b hb).2⟩⟩
  refine⟨v,MF,ptF,owF,S1,rfl,?_,?_,hR1 r v (R.le _ _ _ hleA (hless _) hRv),?_⟩
  ·exact {
    fresh:=fun b hb=>hgN.fresh b (hMF1 b hb)
    mt:=fun i b hb=>by
     obtain⟨hi,hb'⟩:=hFb i b hb;rcases hexI i hi with ⟨h1,h2,h3⟩|⟨h1,_,_⟩
     ·rw[h3]at hb';exact .inl (hcore.mt i b (hblf i b h2 hb'))
     ·exact .inr (.inr ⟨_,(hexin i hi h1).1,hb'⟩)
    inj:=fun i j b hi hj=>by
     obtain⟨h1,h2⟩:=hFb i b hi;obtain⟨h3,h4⟩:=hFb j b hj;exact(hinj i h1 j h3 (hgN.inj _ _ b h4 h2)).symm
    gm:=fun b hb=> .inr (.inl hb)
    gd:=fun i b hb=>hgN.gd _ b (hFb i b hb).2
    dpt:=fun i b hb=>by
     obtain⟨hi,hb'⟩:=hFp i b hb;have:=hgN.dpt _ b hb';rw[hgetm i hi,zal]at this;exact this
    dow:=fun i b hb=>by
     obtain⟨hi,hb'⟩:=hFw i b hb;have:=hgN.dow _ b hb';rw[hgetm i hi,yx]at this;exact this
    blk:=fun i=>by
     by_cases hi:i∈keys H'
     ·have h1:=hgN.blk (exI ex i);rw[hgetm i hi]at h1;have h2:=h1.unren (pt':=ptF) (ow':=owF) (i:=i) (exI ex) (hF i hi).1 (hF i hi).2 fun e=>by
       rcases hexI i hi with ⟨h3,h4,h5⟩|⟨h3,_,_⟩
       ·rw[h5]at e;exact e
       ·have:=(hexin i hi h3).2;rw[e]at this;simp only[qu]at this;omega
      refine h2.mono rfl rfl hV (fun x hx=>?_) (fun _ _ _ h=>h) (fun _ _ _ h=>h);obtain⟨_,hx'⟩:=hFw i x hx;rw[(hF i hi).1];exact hgN.ptow hx'
     ·have:hget H' i= .dead :=by
       cases e:hget H' i<;>first|rfl|exact absurd (hkeyH' i (by rw[e];simp)) hi
      rw[this];trivial}
  ·intro i m b cs Ty hm hb' hcs;obtain⟨hi,hb''⟩:=hFp i b hb';have h1:=hgetm i hi;rw[hm]at h1;simp only[Blk.mapI]at h1;obtain⟨l0,h2,h3,h4⟩:=hcel _ _ h1;rw[h4]at hb'';exact hR2 m _ (Rs.le _ _ _ h3 (hless _) ((hs pt1 ow1 (Agr.refl _ _ _)).2 _ l0 b cs Ty h2 hb'' hcs))
  ·exact {
    os:=hgN.os,tape:=hgN.tape,output:=hgN.output,size:=hgN.size
    same:=fun b hb hn hS=>hgN.keep b hb fun h=>h.elim (fun⟨i,hi⟩=>hn i hi) hS
    mm:=fun b hb=> .inl hb
    mn:=fun b hb=>by
     rcases hb with h1|h1|⟨i,hi,h1⟩
     ·exact .inl h1
     ·rcases hgN.gl b h1 with h2|h2
      ·exact .inr h2
      ·exact .inl (hcore.gm b h2.2)
     ·exact .inr (hbln i b (hexlo i hi) h1)
    sn:=fun b hb=>by
     rcases hgN.gl b hb with h2|h2
     ·exact .inr h2
     ·exact .inl h2.2
    lept:=fun i b hb=>by
     obtain⟨hi,hb'⟩:=hFp i b hb;rcases hexI i hi with ⟨h1,h2,h3⟩|⟨h1,_,_⟩
     ·rw[h3]at hb';exact .inl (hfarp i b h2 hb')
     ·exact .inr ⟨hbln _ b (hexin i hi h1).2 (by simp[bl,hb']),h1⟩
    leow:=fun i x hx=>by
     obtain⟨hi,hx'⟩:=hFw i x hx;rcases hexI i hi with ⟨h1,h2,h3⟩|⟨h1,_,_⟩
     ·rw[h3]at hx';exact .inl (hfarw i x h2 hx')
     ·refine .inr ⟨fun b hb=> .inl (hbln _ b (hexin i hi h1).2 ?_),h1⟩;unfold bl;rw[hgN.ptow hx',hx'];cases x<;>first|exact hb|(simp[vbl]at hb;done)|(rename_i ao _ _;cases ao<;>first|exact hb|(simp[vbl]at hb;done))}
 refine callsIn_wide.1 (callsIn_of_wp_marks (n:=0) hf hb trivial (hk.sem c0 _ _ _ hrel fun e σ a w' hr hK=>?_))
 cases e with
 |normal=>exact hfin σ a w' hr hK
 |ret=>exact hfin σ a w' hr hK
 | _=>exact hK.elim
end
theorem zxu {T:Tab} {ex:List Nat} {c:Code} {n:Nat} {H:Hp} {A:List AV} {H':Hp} {W W':St->Prop} (hw: ∀sl hp,W ⟨sl,hp⟩->W' ⟨sl,hp⟩) (h:fnC T ex c n H A H' W):fnC T ex c n H A H' W':=by
 unfold fnC at h⊢;rw[vl,kd]at h⊢;generalize zcw (zc T c) (qs A++zcc H)=b1 at h⊢;generalize zcw (zc T c) (keys H)=b2 at h⊢;generalize far 0 (keys H)=b3 at h⊢;generalize far ex.length (keys H')=b4 at h⊢;generalize uh (zrh H)=b5 at h⊢;generalize zdt (keys H')=b6 at h⊢;generalize (qdt ex&&zdt ex)=b7 at h⊢
 match b1,b2,b3,b4,b5,b6,b7,h with
 |true,true,true,true,true,true,true,h=>exact hw _ _ h
theorem fnT {P:Program} {T:Tab} (hT:TabOK P T) (hmx:P.follows .mixedOrders =true) {f:Nat} {fn:Func} {code:Code} (hf:P.funcs[f]? =some fn) (hb:fn.body=some code) (hname:(fn.name== "runtime.NumGoroutine")=false)
 {ex:List Nat} {H H':Hp} {A:List AV} {r:AV} (h:fnC T ex code fn.ntmps H A H' fun σ=>zae T (CN P) code true σ (fun σ=>zhy T fn.results.toList ex r H' σ) (fun _ _=>False) (fun σ=>zhy T fn.results.toList ex r H' σ)):zkj P f H A r H':=by
 refine jc hT hmx hf hb hname (ex:=ex) (zxu (fun sl hp h=>?_) h);exact yc hT hmx (by rw[vl,kd];exact h)
theorem gZn{Q K:List Blk->AV->Prop}{r:AV}(h:Q [] r)(k:K [] r): ∃b r,Q b r/\K b r:=⟨_,_,h,k⟩
def zns (bi z:Nat) (e:TypeId) (k:Elt) (xs:List k.T):Hp:= [(bi,.cells [.own z]),(z,.buf e k xs)]
structure EndO (bi z:Nat) (e:TypeId) (k:Elt) (xs:List k.T) (τ:St):Prop where
 le:leH τ.hp (zns bi z e k xs) (zk2 τ.hp (zns bi z e k xs)) (zns bi z e k xs)
structure GhostO (i0 b0:Nat) (pt:Nat->Option Nat) (e:TypeId) (k:Elt) (xs:List k.T) (sl:List AV) (tm:Array Value) (D l:Nat) (rc:Loop) (S:Nat->Prop) (V:ua) (w:World):Prop where
 sd:S D
 sl_:S l
 hd:w.heap[D]? =some (.deferred (some []))
 hl:w.heap[l]? =some (.loop rc)
 sb:S b0
 bx: ∃cs Ty h,w.heap[b0]? =some (.cells cs Ty (0,0))/\cs.toList= [h]/\za8 w V e k xs h/\ ∀b,vbl h=some b->S b/\b≠b0/\b≠D/\b≠l
 rs:Rs ⟨V,ptB [i0] pt,fun _=>none⟩ (zfg [i0] sl) tm.toList
theorem GhostO.stab (i0 b0:Nat) (pt:Nat->Option Nat) (e:TypeId) (k:Elt) (xs:List k.T) (sl:List AV) (tm:Array Value) (D l:Nat) (rc:Loop):Stab (GhostO i0 b0 pt e k xs sl tm D l rc):=
 fun S V V' w w' hV hS h=>⟨h.sd,h.sl_,hS _ _ h.sd h.hd,hS _ _ h.sl_ h.hl,h.sb,by
  obtain⟨cs,Ty,hh,h1,h2,h3,h4⟩:=h.bx;exact⟨cs,Ty,hh,hS _ _ h.sb h1,h2,h3.cmono hV fun b cap cs' e1 e2=>hS b _ (h4 b (by rw[e1];rfl)).1 e2,h4⟩,h.rs.cmono hV⟩
theorem za8.slice {w:World} {V:ua} {e:TypeId} {k:Elt} {xs:List k.T} {h:Value} (hb:za8 w V e k xs h): ∃a n c,h= .slice a n c:=by
 rcases hb with ⟨h1,_⟩|⟨b,cap,cs,h1,_⟩
 ·exact⟨_,_,_,h1⟩
 ·exact⟨_,_,_,h1⟩
theorem zoj: ∀(ps:List Nat) (vs sl:List AV) (K:List AV->Prop),ps.length=vs.length->K (psG ps vs sl)->zfc ps vs sl K
 | [],[],sl,K,_,h=>h
 | [],_::_,_,_,h,_=>by simp at h
 | _::_,[],_,_,h,_=>by simp at h
 |p::ps,v::vs,sl,K,hl,h=>by
  simp only[zfc];rw[zep,zdl];exact zoj ps vs _ K (by simpa using hl) h
theorem zj5 (bi z:Nat) (e:TypeId) (k:Elt) (xs:List k.T) (j:Nat):hget (zns bi z e k xs) j=if bi=j then .cells [.own z]else if z=j then .buf e k xs else .dead :=by
 unfold zns;rw[zd,zd];rfl
section
variable {P:Program} {T:Tab} {F:Wf} {c:Ctx} {σ:St} {a:Act} {w:World}
set_option maxHeartbeats 1000000 in
theorem zs0 {asg body:Code} (ihA:zby P T asg) (ihB:zby P T body) {i0 bi b0 z ob:Nat} {pt:Nat->Option Nat} {e:TypeId} {k:Elt} {xs xs':List k.T} {sl:List AV} {tm:Array Value} {D l fn:Nat} {ps:Array Tmp} {X:List Nat} {A:List AV}
 (hbi:bi=zdd i0) (hi0:i0<=399999) (hob:1400000<=ob) (hz:z≠bi) (hp0:pt i0=some b0) (hbD:b0<D) (hlD:l=D+1) (hX1:bi∉X) (hX2:ob∉X) (hA:zv5 (qs A)=true) (rc:Loop)
 (hrc:rc= {state:= .ready,pending:=none,fn:=fn,tmps:=tm,params:=ps,assign:=asg,body:=body,defers:=D})
 (hk:zfc ps.toList A (zfg [i0] sl) fun sl=>wv T (CN P) false asg ⟨sl,zdf (qj X) (zns bi ob e k xs)⟩ fun ex τ=>match ex with
   | .normal =>wv T (CN P) false body τ fun ex τ=>match ex with
     | .normal =>EndO bi z e k xs' τ
     | _=>False
   | _=>False):
 zz3 P l [(qu,.gst (GhostO i0 b0 pt e k xs sl tm D l rc))] A (.bool true) [(qu,.gst (GhostO i0 b0 pt e k xs' sl tm D l rc))]:=by
 intro W M2 pt2 ow2 S2 vs hcore hconts hvs;have hpt2: ∀i,pt2 i=none:=fun i=>hcore.ptn (by rw[ux];split<;>rfl)
 have how2: ∀i,ow2 i=none:=fun i=>hcore.own (by rw[ux];split<;>rfl)
 have hb2: ∀i b,bl pt2 ow2 i≠some b:=fun i b h=>by simp[bl,hpt2,how2]at h
 have hJ:=hcore.blk qu;rw[ux,if_pos rfl]at hJ;obtain⟨_,_,hJ⟩:=hJ;obtain⟨hlen,hk⟩:=zbz _ _ _ _ hk;have hA':=zju hA;have hy:=run_yield (P:=P) (args:=vs.toArray) hJ.hl (by rw[hrc];simp;rw[←hvs.length,←hlen];simp);refine⟨rc.fn,_,rc.assign,rc.body,hy,roundIn_of_wpIn trivial ?_⟩;have hlM:M2 l:=hcore.gm l hJ.sl_;have hlW:l<W.heap.size:=zf hJ.hl;have hDW:D<W.heap.size:=zf hJ.hd;obtain⟨cs0,Ty0,h0,hx1,hx2,hx3,hx4⟩:=hJ.bx;have hne:bi≠ob:=by rw[hbi];unfold zdd;omega
 obtain⟨pb,hpb⟩: ∃pb,pb=ptB [i0] pt:=⟨_,rfl⟩;have hrs:=hJ.rs;have hrs2:=hJ.rs;rw[←hpb]at hrs;have hptb: ∀j b,pb j=some b<->j=bi/\b=b0:=fun j b=>by
  rw[hpb,hbi];constructor
  ·intro h;obtain⟨i,h1,h2,h3⟩:=zjo h;simp only[qd]at h1;subst h1;rw[hp0]at h3;exact⟨h2,(Option.some.inj h3).symm⟩
  ·rintro⟨rfl,rfl⟩;rw[zc1 (by simp)];exact hp0
 let ow1:Nat->Option Value:=fun i=>if i=ob then some h0 else none
 let c1:Ctx:= {M0:=M2,w0:=W,mine:=fun b=>b=b0\/vbl h0=some b,sm:=fun _=>False,pt0:=pb,ow0:=ow1}
 have hmine: ∀b,c1.mine b->b≠D/\b≠l/\S2 b:=fun b hb=>by
  rcases hb with rfl|hb
  ·exact⟨by omega,by omega,hJ.sb⟩
  ·have:=hx4 b hb;exact⟨this.2.2.1,this.2.2.2,this.1⟩
 have how1: ∀j x,ow1 j=some x->j=ob/\x=h0:=fun j x h=>by
  by_cases e:j=ob
  ·refine⟨e,?_⟩;simp only[ow1,if_pos e]at h;exact(Option.some.inj h).symm
  ·simp only[ow1,if_neg e]at h;cases h
 have hptO:pb ob=none:=by
  cases h:pb ob with
  |none=>rfl
  |some b=>exact absurd ((hptb _ _).1 h).1.symm hne
 have hblB: ∀j b,bl (pb) ow1 j=some b->(j=bi/\b=b0)\/(j=ob/\vbl h0=some b):=fun j b h=>by
  unfold bl at h
  cases hq:pb j with
  |some z=>rw[hq]at h;cases h;exact .inl ((hptb _ _).1 hq)
  |none=>
   rw[hq]at h
   cases hq2:ow1 j with
   |none=>rw[hq2]at h;cases h
   |some x=>
    obtain⟨h1,rfl⟩:=how1 j x hq2;rw[hq2]at h;refine .inr ⟨h1,?_⟩;obtain⟨ao,n,cp,rfl⟩:=hx3.slice;cases ao<;>exact h
 have hnX: ∀j,j∈X->hget (zdf (qj X) (zns bi ob e k xs)) j= .free :=fun j hj=>jq hj
 have hgB: ∀j,j∉X->hget (zdf (qj X) (zns bi ob e k xs)) j=if bi=j then .cells [.own ob]else if ob=j then .buf e k xs else .dead :=fun j hj=>by
  rw[zr hj,zj5]
 have hg1:hget (zdf (qj X) (zns bi ob e k xs)) (bi)= .cells [.own ob]:=by rw[hgB _ hX1,if_pos rfl]
 have hg2:hget (zdf (qj X) (zns bi ob e k xs)) ob= .buf e k xs:=by rw[hgB _ hX2,if_neg hne,if_pos rfl]
 have hrel:Rel c1 ⟨psG ps.toList A (zfg [i0] sl),zdf (qj X) (zns bi ob e k xs)⟩ {tmps:=(rc.params.zip vs.toArray).foldl (fun tmps (t,a)=>tmps.setIfInBounds t a) rc.tmps,defers:= []} W:=by
  refine⟨M2,pb,ow1,fun _=>False,?_,?_,.nil⟩
  ·exact {
    os:=rfl,tape:=rfl,output:=rfl,size:=qB _,keep:=fun _ _ _=>rfl,fresh:=hcore.fresh,m0:=fun _ h=>h,m1:=hcore.fresh
    mt:=fun j b hb=>by
     rcases hblB j b hb with ⟨_,rfl⟩|⟨_,h⟩
     ·exact hcore.gm _ hJ.sb
     ·exact hcore.gm b (hx4 b h).1
    inj:=fun j q b hj hq=>by
     rcases hblB j b hj with ⟨h1,h2⟩|⟨h1,h2⟩<;>rcases hblB q b hq with ⟨h3,h4⟩|⟨h3,h4⟩
     ·rw[h1,h3]
     ·exact absurd h2 (hx4 b h4).2.1
     ·exact absurd h4 (hx4 b h2).2.1
     ·rw[h1,h3]
    gm:=fun b h=>h.elim,gl:=fun b h=>h.elim,gd:=fun _ _ _ h=>h
    loc:=fun j b hb=>by
     rcases hblB j b hb with ⟨h1,h2⟩|⟨h1,h2⟩
     ·exact .inr ⟨.inl h2,by rw[h1,hbi];unfold zdd;omega⟩
     ·exact .inr ⟨.inr h2,by omega⟩
    farp:=fun _ _ _ h=>h,farw:=fun _ _ _ h=> .inl h
    dpt:=fun j b hb=>by
     obtain⟨h1,_⟩:=(hptb j b).1 hb;rw[h1,hg1];rfl
    dow:=fun j x hb=>by
     obtain⟨h1,_⟩:=how1 j x hb;rw[h1,hg2];rfl
    blk:=fun j=>by
     by_cases hjX:j∈X
     ·rw[hnX j hjX];trivial
     ·rw[hgB j hjX];split
      ·rename_i e1;subst e1;exact⟨b0,cs0,Ty0,(hptb _ _).2 ⟨rfl,rfl⟩,hx1⟩
      ·split
       ·rename_i e2;subst e2;exact⟨h0,by simp[ow1],hx3⟩
       ·trivial}
  ·intro pt' ow' hag;have ha1:=hag (bi) (by rw[hg1];rfl);have ha2:=hag ob (by rw[hg2];rfl);have hle:Env.le ⟨zn W M2,pb,fun _=>none⟩ ⟨zn W M2,pt',ow'⟩ (qs (psG ps.toList A (zfg [i0] sl))):=⟨fun _ _ h=>h,fun j hj=>by
    have hj':j=bi:=by
     rcases znk _ _ _ _ hj with h|h
     ·rw[hA']at h;cases h
     ·have:=zcb _ _ _ h;obtain⟨i,h1,h2⟩:=(qbw _ _).1 this;simp only[qd]at h1;rw[h2,h1,hbi]
    rw[hj'];refine⟨fun b hb=>ha1.1.symm.trans hb,fun b hb=>?_⟩;have:ow' (bi)=some b:=hb;rw[ha1.2]at this;exact absurd (how1 _ _ this).1 hne⟩
   refine⟨?_,fun j m b cs Ty hm hb hcs=>?_⟩
   ·have hvs':Rs ⟨zn W M2,pb,fun _=>none⟩ A vs:=Rs.imp (ρ:=⟨zn W M2,pt2,ow2⟩) A vs ⟨fun _ _ h=>h,fun i hi=>by rw[hA']at hi;cases hi⟩ hvs;have h1:=ztb ps.toList A vs (zfg [i0] sl) tm hvs' hrs;have e:((rc.params.zip vs.toArray).foldl (fun tmps (t,a)=>tmps.setIfInBounds t a) rc.tmps)=(ps.toList.zip vs).foldl (fun t (p,v)=>t.setIfInBounds p v) tm:=by
     rw[hrc,←Array.foldl_toList];simp
    rw[e];exact h1.imp _ _ hle
   ·by_cases hjX:j∈X
    ·rw[hnX j hjX]at hm;cases hm
    ·rw[hgB j hjX]at hm;split at hm
     ·rename_i e1;subst e1;cases hm
      obtain⟨_,h2⟩:=(hptb _ _).1 hb;subst h2;rw[hx1]at hcs;cases hcs
      rw[hx2];refine⟨⟨hx3.slice,fun x hx=>?_⟩,trivial⟩;have:ow' ob=some x:=hx;rw[ha2.2]at this;exact(how1 _ _ this).2.symm
     ·split at hm<;>cases hm
 have hrcA:rc.assign=asg:=by rw[hrc]
 have hrcB:rc.body=body:=by rw[hrc]
 rw[hrcA,hrcB];refine ihA ⟨Fence.wide.inRound l,.inr ⟨l,rfl⟩⟩ c1 _ _ _ _ W hrel hk fun ex τ a1 W1 hr hk1=>?_
 cases ex with
 |normal=>
  have hL1:W1.heap[l]? =some (.loop rc):=by
   obtain⟨_,_,_,_,hg,_⟩:=hr;rw[hg.keep l hlW fun h=>(hmine l h).2.1 rfl];exact hJ.hl
  refine⟨_,run_beginRound hL1 (by rw[hrc]),?_⟩;have hr2:=hr.touch (.loop {rc with state:= .busy}) hlM (fun h=>(hmine l h).2.1 rfl) hlW (by rw[hJ.hl];simp);refine ihB ⟨Fence.wide.inRound l,.inr ⟨l,rfl⟩⟩ _ _ _ _ a1 _ hr2 hk1 fun ex τ2 a2 W2 hr3 hk2=>?_
  cases ex with
  |normal=>
   obtain⟨hend⟩:=hk2;obtain⟨M3,pt3,ow3,S3,hg3,hs3,_⟩:=hr3;have hkeep: ∀b,b<W.heap.size-> ¬c1.mine b->b≠l->W2.heap[b]? =W.heap[b]? :=fun b hb hm hne'=>by
    rw[hg3.keep b (by simpa[World.putObj]using hb) hm];exact qc W _ hne'
   have hL2:W2.heap[l]? =some (.loop {rc with state:= .busy}):=by
    rw[hg3.keep l (by simpa[World.putObj]using hlW) fun h=>(hmine l h).2.1 rfl];exact World.putObj_heap_same hlW
   refine⟨_,_,run_endRound none hL2,?_⟩;have hsz:W.heap.size<=W2.heap.size:=by have:=hg3.size;simpa[World.putObj]using this
   obtain⟨Wf,hWf⟩: ∃Wf,Wf=W2.putObj l (.loop rc):=⟨_,rfl⟩;have hWf':W2.putObj l (.loop {({rc with state:= .busy}:Loop)with state:=if(none:Option Code).isNone then .ready else .done,pending:=none})=Wf:=by rw[hWf,hrc];rfl
   rw[hWf'];have hfsz:Wf.heap.size=W2.heap.size:=by rw[hWf];simp[World.putObj]
   have hfne: ∀b,b≠l->Wf.heap[b]? =W2.heap[b]? :=fun b hb=>by rw[hWf];exact qc W2 _ hb
   have hfl:Wf.heap[l]? =some (.loop rc):=by rw[hWf];exact World.putObj_heap_same (zf hL2)
   obtain⟨ptN,owN,hgN,hless,hcel⟩:=hg3.weaken (zfu hend);have hz1:hget (zns bi z e k xs') (bi)= .cells [.own z]:=by rw[zj5,if_pos rfl]
   have hz2:hget (zns bi z e k xs') z= .buf e k xs':=by rw[zj5,if_neg (fun h=>hz h.symm),if_pos rfl]
   obtain⟨b,cs,Ty,h1,h2⟩:=hgN.cel _ _ hz1;have hb:b=b0:=((hptb _ _).1 (hgN.farp (bi) b (by rw[hbi];unfold zdd;omega) h1)).2;subst hb;obtain⟨h',hz3,hz4⟩:=hgN.buf _ _ _ _ hz2;obtain⟨m0,h3,h4,h5⟩:=hcel _ _ hz1;have h1':=h1;rw[h5]at h1';have h6:=(hs3 pt3 ow3 (Agr.refl _ _ _)).2 _ m0 b cs Ty h3 h1' h2;have h7:=Rs.le _ _ _ h4 (hless _) h6;have hcs:cs.toList= [h']:=by
    match hcl:cs.toList,h7 with
    | [v],⟨⟨_,hv⟩,_⟩=>rw[hv h' hz3]
   have hblz: ∀q,vbl h'=some q->bl ptN owN z=some q:=fun q hq=>by
    unfold bl;rw[hgN.ptow hz3,hz3];obtain⟨ao,n,cp,rfl⟩:=hz4.slice;cases ao<;>exact hq
   have hblb:bl ptN owN (bi)=some b:=by simp[bl,h1]
   have hq1: ∀q,vbl h'=some q->q≠b:=fun q hq e1=>hz (hgN.inj z (bi) b (by rw[←e1];exact hblz q hq) hblb)
   have hq2: ∀q,vbl h'=some q->(W.heap.size<=q\/vbl h0=some q):=fun q hq=>by
    rcases hgN.loc z q (hblz q hq)with h8|⟨h8,_⟩
    ·exact .inl (by simpa[World.putObj]using h8)
    ·rcases h8 with h8|h8
     ·exact absurd h8 (hq1 q hq)
     ·exact .inr h8
   have hq3: ∀q,vbl h'=some q->q≠D/\q≠l:=fun q hq=>by
    rcases hq2 q hq with h8|h8
    ·exact⟨by omega,by omega⟩
    ·have:=hx4 q h8;exact⟨this.2.2.1,this.2.2.2⟩
   let S4:Nat->Prop:=fun q=>S2 q\/vbl h'=some q
   let M4:Nat->Prop:=fun q=>M2 q\/vbl h'=some q
   have hM43: ∀q,M4 q->M3 q:=fun q hq=>hq.elim (hg3.m0 q) fun hq=>hgN.mt z q (hblz q hq)
   have hV3: ∀b o,zn W2 M3 b o->zn Wf M4 b o:=zt fun b o hm hb=>⟨fun h=>hm (hM43 b h),by rw[hfne b fun e=>hm (hg3.m0 b (e▸hlM))];exact hb⟩
   have hVW: ∀b o,zn W M2 b o->zn Wf M4 b o:=zt fun b o hm hb=>by
    have hne':b≠l:=fun e=>hm (e▸hlM)
    refine⟨fun h=>h.elim hm fun h=>?_,?_⟩
    ·rcases hq2 b h with h8|h8
     ·have:=zf hb;omega
     ·exact hm (hcore.gm b (hx4 b h8).1)
    ·rw[hfne b hne',hkeep b (zf hb) (fun h=>hm (hcore.gm b (hmine b h).2.2)) hne'];exact hb
   have hbl':b≠l:=by omega
   refine⟨_,M4,pt2,ow2,S4,rfl,?_,?_,?_,?_⟩
   ·exact {
     fresh:=fun q hq=>by rw[hfsz];exact hg3.fresh q (hM43 q hq)
     mt:=fun i q hq=>absurd hq (hb2 i q)
     inj:=fun i j q hq=>absurd hq (hb2 i q)
     gm:=fun q hq=>hq.elim (fun h=> .inl (hcore.gm q h)) .inr
     gd:=fun i q hq=>absurd hq (hb2 i q)
     dpt:=fun i q hq=>by rw[hpt2]at hq;cases hq
     dow:=fun i q hq=>by rw[how2]at hq;cases hq
     blk:=fun i=>by
      rw[ux];split
      ·rename_i e;subst e;have hD':Wf.heap[D]? =some (.deferred (some [])):=by
        rw[hfne D (by omega),hkeep D hDW (fun h=>(hmine D h).1 rfl) (by omega)];exact hJ.hd
       refine⟨rfl,GhostO.stab _ _ _ _ _ _ _ _ _ _ _,⟨.inl hJ.sd,.inl hJ.sl_,hD',hfl,.inl hJ.sb,⟨cs,Ty,h',by rw[hfne b hbl'];exact h2,hcs,?_,fun q hq=>⟨.inr hq,hq1 q hq,(hq3 q hq).1,(hq3 q hq).2⟩⟩,hrs2.imp _ _ (Env.le_view hVW _)⟩⟩;exact hz4.mono hV3 fun q cap cs' e1 e2=>by rw[hfne q (hq3 q (by rw[e1];rfl)).2];exact e2
      ·trivial}
   ·intro i m q cs Ty hm;rw[ux]at hm;split at hm<;>cases hm
   ·rfl
   ·exact {
     os:=by rw[hWf];exact hg3.os
     tape:=by rw[hWf];exact hg3.tape
     output:=by rw[hWf];exact hg3.output
     size:=by rw[hfsz];exact hsz
     same:=fun q hq _ hS=>by
      have hne':q≠l:=fun e=>hS (e▸hJ.sl_)
      rw[hfne q hne'];exact hkeep q hq (fun h=>hS (hmine q h).2.2) hne'
     mm:=fun _ h=> .inl h
     mn:=fun q h=>h.elim .inl fun h=>(hq2 q h).elim .inr fun h8=> .inl (hcore.gm q (hx4 q h8).1)
     sn:=fun q h=>h.elim .inl fun h=>(hq2 q h).elim .inr fun h8=> .inl (hx4 q h8).1
     lept:=fun _ _ h=> .inl h,leow:=fun _ _ h=> .inl h}
  | _=>exact hk2.elim
 | _=>exact hk1.elim
def roOk (T:Tab) (sl:List AV) (hp:Hp) (g:Nat) (i0 k0 bi ob:Nat) (caps:List AV) (ib:List Blk) (X:List Nat):Bool:=
 q5 (qbu T g) 0&&uh (zw hp (nub (qs caps)))&&zbj (nub (qs caps)) ib&&uh ib&&zv4 (zcc (vg (nub (qs caps)) ib)) (nub (qs caps))&&zcw [qu] (nub (qs caps))&&ltB (nub (qs caps))&&
  zcw [i0,k0] (nub (qs caps))&&zcw [k0] (i0::qs sl++zcc (zcl hp i0 .dead))&&q4 i0 399999&&q4 k0 999999&&zcw [bi,ob] X&&q4 1400000 ob
open Classical in
set_option maxHeartbeats 2000000 in
theorem zkw {asg body:Code} (ihA:zby P T asg) (ihB:zby P T body) {f:Operand} {ps:Array Tmp} {Q:Exit->Act->World->Prop} (h:Rel c σ a w) {g:Nat} {caps:List AV} (hf:zj σ.sl f= .fn g caps)
 {i0 k0 bi ob:Nat} {e:TypeId} {k:Elt} {X Y:Type} {xs:X->List k.T} {args:Y->List AV} {next:X->Y->X} {x₀ xE:X} {r:AV} {ib:List Blk} (hbi:bi=zdd i0)
 (hc0:hget σ.hp i0= .cells [.own k0]) (hc1:hget σ.hp k0= .buf e k (xs x₀)) (hok:roOk T σ.sl σ.hp g i0 k0 bi ob caps ib (zc T asg++zc T body)=true) (hargs: ∀y,zv5 (qs (args y))=true)
 (ok:X->Prop) (hcall: ∀(l:Nat) (J:X->GJ),(∀x y,ok x->zz3 P l [(qu,.gst (J x))] (args y) (.bool true) [(qu,.gst (J (next x y)))])->
   zkj P g ((qu,.gst (J x₀))::vg (nub (qs caps)) (zw σ.hp (nub (qs caps)))) (.cb l::caps) r ((qu,.gst (J xE))::vg (nub (qs caps)) ib))
 (hbody: ∀x y,ok x-> ∃z,z≠bi/\zfc ps.toList (args y) (zfg [i0] σ.sl) fun sl=>wv T (CN P) false asg ⟨sl,zdf (qj (zc T asg++zc T body)) (zns bi ob e k (xs x))⟩ fun ex τ=>match ex with
   | .normal =>wv T (CN P) false body τ fun ex τ=>match ex with
     | .normal =>EndO bi z e k (xs (next x y)) τ
     | _=>False
   | _=>False)
 (hQ: ∀a w,Rel c ⟨σ.sl,zy (zcl σ.hp k0 (.buf e k (xs xE))) (nub (qs caps)) ib⟩ a w->Q .normal a w):(Code.rangeFunc f ps asg body).wpIn Fence.wide 0 P Q a w:=by
 simp only[roOk,q3]at hok;obtain⟨⟨⟨⟨⟨⟨⟨⟨⟨⟨⟨⟨hnb,hnfc⟩,hlib⟩,hnfb⟩,hsub1⟩,hcb⟩,hltc⟩,hdis⟩,hdk⟩,hi0⟩,hk0⟩,hdX⟩,hob⟩:=hok;have hi0:=q2 hi0;have hk0:=q2 hk0;have hob:=q2 hob;have hdis:=(wu _ _).1 hdis;have hdk:=(wu _ _).1 hdk;have hdX:=(wu _ _).1 hdX;have hi0c:i0∉nub (qs caps):=hdis i0 (by simp);have hk0c:k0∉nub (qs caps):=hdis k0 (by simp);have hcb:qu∉nub (qs caps):=(wu _ _).1 hcb qu (by simp);have hltc:=zc6 hltc;have hsub1:=yo _ _ hsub1;have hkdis:=hdk k0 (by simp);simp only[qA,q6,q7,not_or]at hkdis;obtain⟨hk0i,hk0sl,hk0h⟩:=hkdis;generalize hic:nub (qs caps)=ic at*;have hicnd:ic.Nodup:=by rw[←hic];exact xg _
 obtain⟨M,pt,ow,S,hg,hs,hd⟩:=h;obtain⟨hsl,hct⟩:=hs pt ow (Agr.refl _ _ _);have hfv:=za hsl f;rw[hf]at hfv;simp only[R]at hfv;obtain⟨vcaps,hfv,hcaps⟩:=hfv;obtain⟨b0,cs0,Ty0,hp0,hh0⟩:=hg.cel i0 _ hc0;obtain⟨h00,how0,hbuf0⟩:=hg.buf k0 _ _ _ hc1;have hcs0:cs0.toList= [h00]:=by
  match hcl:cs0.toList,hct i0 _ b0 cs0 Ty0 hc0 hp0 hh0 with
  | [v],⟨⟨_,hv⟩,_⟩=>rw[hv h00 how0]
 have hbk0: ∀b,vbl h00=some b->bl pt ow k0=some b:=fun b hb=>by
  unfold bl;rw[hg.ptow how0,how0];obtain⟨ao,n,cp,rfl⟩:=hbuf0.slice;cases ao<;>exact hb
 have hbi0:bl pt ow i0=some b0:=by simp[bl,hp0]
 have hb0ne: ∀b,vbl h00=some b->b≠b0:=fun b hb e1=>hk0i (hg.inj k0 i0 b (hbk0 b hb) (e1▸hbi0))
 refine wpIn_rangeFunc fun fn _=>?_
 obtain⟨D,hD⟩: ∃D,D=w.heap.size:=⟨_,rfl⟩;obtain⟨l,hl⟩: ∃l,l=D+1:=⟨_,rfl⟩;obtain⟨rc,hrc⟩: ∃rc:Loop,rc= {state:= .ready,pending:=none,fn:=fn,tmps:=a.tmps,params:=ps,assign:=asg,body:=body,defers:=D}:=⟨_,rfl⟩;obtain⟨w1,hw1⟩: ∃w1,w1=(w.alloc (.deferred (some []))).alloc (.loop rc):=⟨_,rfl⟩;have he1:Ext w w1:=by
  have h1:=Ext.alloc w (.deferred (some []));have h2:=Ext.alloc (w.alloc (.deferred (some []))) (.loop rc);rw[hw1];exact⟨h2.os.trans h1.os,h2.tape.trans h1.tape,h2.output.trans h1.output,qD h1.size h2.size,fun b hb'=>(h2.block b (by simp;omega)).trans (h1.block b hb')⟩
 have hw1sz:w1.heap.size=w.heap.size+2:=by rw[hw1];simp
 have hD1:w1.heap[D]? =some (.deferred (some [])):=by
  rw[hw1,hD,(Ext.alloc (w.alloc (.deferred (some []))) (.loop rc)).block _ (by simp)];exact World.alloc_heap_new _ _
 have hl1:w1.heap[l]? =some (.loop rc):=by
  rw[hw1,hl,hD];have:=World.alloc_heap_new (w.alloc (.deferred (some []))) (.loop rc);rwa [World.size_alloc]at this
 have hMlt: ∀b,M b->b<w.heap.size:=hg.fresh;have hbllt: ∀i b,bl pt ow i=some b->b<w.heap.size:=fun i b hb'=>hMlt b (hg.mt i b hb')
 have hptlt: ∀i b,pt i=some b->b<w.heap.size:=fun i b hb'=>hbllt i b (by simp[bl,hb'])
 have hb0lt:=hptlt i0 b0 hp0;have hv0lt: ∀b,vbl h00=some b->b<w.heap.size:=fun b hb=>hbllt k0 b (hbk0 b hb)
 let M1:Nat->Prop:=fun b=>M b\/b=D\/b=l
 let S1:Nat->Prop:=fun b=>b=D\/b=l\/b=b0\/vbl h00=some b
 let ptR:Nat->Option Nat:=fun i=>if i∈ic then pt i else none
 let owR:Nat->Option Value:=fun i=>if i∈ic then ow i else none
 have hptR: ∀i b,ptR i=some b->i∈ic/\pt i=some b:=fun i b hb'=>by
  by_cases hi:i∈ic
  ·exact⟨hi,by simpa only[ptR,hi,if_true]using hb'⟩
  ·simp only[ptR,hi,if_false]at hb';cases hb'
 have howR: ∀i b,owR i=some b->i∈ic/\ow i=some b:=fun i b hb'=>by
  by_cases hi:i∈ic
  ·exact⟨hi,by simpa only[owR,hi,if_true]using hb'⟩
  ·simp only[owR,hi,if_false]at hb';cases hb'
 have hblR: ∀i b,bl ptR owR i=some b->i∈ic/\bl pt ow i=some b:=fun i b hb'=>by
  by_cases hi:i∈ic
  ·exact⟨hi,by simpa only[bl,ptR,owR,hi,if_true]using hb'⟩
  ·simp only[bl,ptR,owR,hi,if_false]at hb';cases hb'
 have hV1: ∀b o,zn w M b o->zn w1 M1 b o:=zt fun b o hm hb'=>⟨fun h'=>by
  have:=zf hb';rcases h' with h'|h'|h'
  ·exact hm h'
  ·omega
  ·omega,he1.get hb'⟩
 have hleR: ∀ids:List Nat,Env.le ⟨zn w M,pt,ow⟩ ⟨zn w1 M1,ptR,owR⟩ ids:=fun ids=>⟨hV1,fun i _=>⟨fun b hb'=>(hptR i b hb').2,fun b hb'=>(howR i b hb').2⟩⟩
 let J:X->GJ:=fun x=>GhostO i0 b0 pt e k (xs x) σ.sl a.tmps D l rc
 have hgetZ: ∀(x:Blk) (bs:List Blk) i,hget ((qu,x)::vg ic bs) i=if qu=i then x else hget (vg ic bs) i:=fun x bs i=>zd _ _ _ _
 have hJ0:J x₀ S1 (zn w1 M1) w1:=by
  refine⟨.inl rfl,.inr (.inl rfl),hD1,hl1,.inr (.inr (.inl rfl)),⟨cs0,Ty0,h00,he1.get hh0,hcs0,hbuf0.mono hV1 fun b cap cs _ h2=>he1.get h2,fun b hb=>⟨.inr (.inr (.inr hb)),hb0ne b hb,?_,?_⟩⟩,?_⟩
  ·have:=hv0lt b hb;omega
  ·have:=hv0lt b hb;omega
  ·exact(Rs.mvl (pt':=ptB [i0] pt) (ow':=fun _=>none) (fun i hi=>zc1 hi) σ.sl _ hsl).imp _ _ (Env.le_view hV1 _)
 have hcore1:Core M1 ptR owR S1 ((qu,.gst (J x₀))::vg ic (zw σ.hp ic)) w1:= {
  fresh:=fun b hb'=>by
   rcases hb' with h'|h'|h'
   ·have:=hMlt b h';omega
   ·omega
   ·omega
  mt:=fun i b hb'=> .inl (hg.mt i b (hblR i b hb').2)
  inj:=fun i j b hi hj=>hg.inj i j b (hblR i b hi).2 (hblR j b hj).2
  gm:=fun b hb'=>by
   rcases hb' with h'|h'|h'|h'
   ·exact .inr (.inl h')
   ·exact .inr (.inr h')
   ·exact .inl (hg.mt i0 b (h'▸hbi0))
   ·exact .inl (hg.mt k0 b (hbk0 b h'))
  gd:=fun i b hb' hS=>by
   obtain⟨hi,hb''⟩:=hblR i b hb';have:=hbllt i b hb'';rcases hS with h'|h'|h'|h'
   ·omega
   ·omega
   ·have:=hg.inj i i0 b hb'' (h'▸hbi0);exact hi0c (this▸hi)
   ·have:=hg.inj i k0 b hb'' (hbk0 b h');exact hk0c (this▸hi)
  dpt:=fun i b hb'=>by
   obtain⟨hi,hb''⟩:=hptR i b hb';rw[hgetZ,if_neg (show ¬qu=i from fun e=>hcb (e▸hi)),qe σ.hp hi];exact hg.dpt i b hb''
  dow:=fun i b hb'=>by
   obtain⟨hi,hb''⟩:=howR i b hb';rw[hgetZ,if_neg (show ¬qu=i from fun e=>hcb (e▸hi)),qe σ.hp hi];exact hg.dow i b hb''
  blk:=fun i=>by
   rw[hgetZ];by_cases e1:qu=i
   ·rw[if_pos e1];exact⟨e1.symm,GhostO.stab _ _ _ _ _ _ _ _ _ _ _,hJ0⟩
   ·rw[if_neg e1];by_cases hi:i∈ic
    ·rw[qe σ.hp hi];have h1:=(hg.blk i).mono (w':=w1) (V':=zn w1 M1) (pt':=pt) (ow':=ow) rfl rfl hV1 (fun _=>hg.ptow) (fun _ _ _ hh=>he1.get hh) (fun _ _ _ hh=>he1.get hh);have h2:=h1.ren (pt':=ptR) (ow':=owR) (S':=S1) (i:=i) id (by simp only[ptR,if_pos hi]) (by simp only[owR,if_pos hi]) (fun e'=>absurd e'.symm e1)
     rwa [Blk.mapI_id']at h2
    ·rw[wz hi];trivial}
 have hcall':=hcall l J (fun x y hx=>by
  obtain⟨z,hz,hb⟩:=hbody x y hx;exact zs0 (P:=P) (T:=T) ihA ihB hbi hi0 hob hz hp0 (by rw[hD];exact hb0lt) hl (hdX bi (by simp)) (hdX ob (by simp)) (hargs y) rc hrc hb)
 obtain⟨⟨fg,hfg,hbg,hng⟩,hokc⟩:=hcall';have hcallee:=hokc w1 M1 ptR owR S1 (.func (.yield l) #[] #[]::vcaps.toList) hcore1 (fun i m b cs Ty hm hb' hcs=>by
  obtain⟨hi,hb''⟩:=hptR i b hb';rw[hgetZ,if_neg (show ¬qu=i from fun e=>hcb (e▸hi)),qe σ.hp hi]at hm;obtain⟨b1,cs1,Ty1,h1,h2⟩:=hg.cel i m hm;rw[hb'']at h1;cases h1
  have:=he1.get h2;rw[hcs]at this;cases this
  exact(hct i m b cs Ty hm hb'' h2).imp _ _ (hleR _)) (by simp only[Rs,R];exact⟨trivial,hcaps.imp _ _ (hleR _)⟩)
 refine⟨l,[{target:= .collected D,args:= #[]}],w1,{target:= .fn (.func g) vcaps,args:= #[.func (.yield l) #[] #[]]},w1,g,#[.func (.yield l) #[] #[]]++vcaps,w1,?_,?_,fun _ _=>trivial,?_,(fun h'=>by cases h'),?_⟩
 ·have:=run_enterLoop_outer (P:=P) (w:=w) fn a.tmps ps asg body;rw[hw1,hrc,hl,hD];exact this
 ·simp only[resolve,rangeCall,hfv];simp[Deferred.ofValue,Act.eval]
 ·have hprog:(program).run P w1= .ok P w1:=rfl;simp only[invoke,callFunc,Sem.run_bind,hprog,Result.andThen_ok,hfg,hng,hbg,q9,if_false,Sem.run_pure]
 have evs:(Value.func (.yield l) #[] #[]::vcaps.toList).toArray = #[.func (.yield l) #[] #[]]++vcaps:=by apply Array.ext';simp
 rw[evs]at hcallee;refine(callsIn_wide.2 hcallee).mono fun ex w3 hans=>?_
 obtain⟨v,M3,pt3,ow3,S3,rfl,hcore3,hconts3,hr3,hleft⟩:=hans;have hJE:=hcore3.blk qu;rw[hgetZ,if_pos rfl]at hJE;obtain⟨_,_,hJ⟩:=hJE;have hst:rc.state≠ .busy :=by simp[hrc]
 refine⟨_,_,run_endLoop hJ.hl hst,?_⟩;obtain⟨w4,hw4⟩: ∃w4,w4=w3.putObj l (.loop {rc with state:= .exhausted}):=⟨_,rfl⟩;rw[←hw4];have hw4ne: ∀b,b≠l->w4.heap[b]? =w3.heap[b]? :=fun b hb'=>by rw[hw4];exact qc w3 _ hb'
 have hw4sz:w4.heap.size=w3.heap.size:=by rw[hw4];simp[World.putObj]
 obtain⟨csE,TyE,hE,hE1,hE2,hE3,hE4⟩:=hJ.bx;have hsE: ∀b,vbl hE=some b->w.heap.size<=b\/vbl h00=some b:=fun b hb=>by
  obtain⟨h1,h2,h3,h4⟩:=hE4 b hb;rcases hleft.sn b h1 with h5|h5
  ·rcases h5 with h5|h5|h5|h5
   ·exact absurd h5 h3
   ·exact absurd h5 h4
   ·exact absurd h5 h2
   ·exact .inr h5
  ·exact .inl (by omega)
 have hptI: ∀i b,i∈ic->pt3 i=some b->pt i=some b:=fun i b hi hb'=>by
  rcases hleft.lept i b hb' with h1|⟨_,h1⟩
  ·exact(hptR i b h1).2
  ·have:=hltc i hi;omega
 have howI: ∀i b,i∈ic->ow3 i=some b->ow i=some b:=fun i b hi hb'=>by
  rcases hleft.leow i b hb' with h1|⟨_,h1⟩
  ·exact(howR i b h1).2
  ·have:=hltc i hi;omega
 have hsame: ∀b,b<w.heap.size->(∀i,i∈ic->bl pt ow i≠some b)->b≠b0->vbl h00≠some b->w4.heap[b]? =w.heap[b]? :=fun b hb' h1 h2 h3=>by
  rw[hw4ne b (by omega),hleft.same b (by omega) (fun i hi=>h1 i (hblR i b hi).1 (hblR i b hi).2) (fun hS=>by
   rcases hS with h'|h'|h'|h'
   ·omega
   ·omega
   ·exact h2 h'
   ·exact h3 h'),he1.block b hb']
 let M4:Nat->Prop:=fun b=>M3 b/\b≠D
 have hMM: ∀b,M b->M4 b:=fun b hb'=>⟨hleft.mm b (.inl hb'),by have:=hMlt b hb';omega⟩
 have hlM3:M3 l:=hcore3.gm l hJ.sl_;have hV4: ∀b o,zn w M b o->zn w4 M4 b o:=zt fun b o hm hb'=>by
  have hlt:=zf hb';refine⟨fun h'=>?_,?_⟩
  ·rcases hleft.mn b h'.1 with h1|h1
   ·rcases h1 with h1|h1|h1
    ·exact hm h1
    ·omega
    ·omega
   ·omega
  ·rw[hsame b hlt (fun i _ h1=>hm (hg.mt i b h1)) (fun h1=>hm (hg.mt i0 b (h1▸hbi0))) fun h1=>hm (hg.mt k0 b (hbk0 b h1))];exact hb'
 have hV34: ∀b o,zn w3 M3 b o->zn w4 M4 b o:=zt fun b o hm hb'=>⟨fun h'=>hm h'.1,by rw[hw4ne b fun e=>hm (e▸hlM3)];exact hb'⟩
 let pt4:Nat->Option Nat:=fun i=>if i∈ic then pt3 i else pt i
 let ow4:Nat->Option Value:=fun i=>if i∈ic then ow3 i else if i=k0 then some hE else ow i
 have h4c: ∀i,i∈ic->pt4 i=pt3 i/\ow4 i=ow3 i:=fun i hi=>by simp only[pt4,ow4,if_pos hi];exact⟨trivial,trivial⟩
 have h4k:pt4 k0=none/\ow4 k0=some hE:=by
  simp only[pt4,ow4,if_neg hk0c,if_true];exact⟨hg.ptow how0,trivial⟩
 have h4n: ∀i,i∉ic->i≠k0->pt4 i=pt i/\ow4 i=ow i:=fun i hi hk=>by simp only[pt4,ow4,if_neg hi,if_neg hk];exact⟨trivial,trivial⟩
 have h4p: ∀i b,pt4 i=some b->pt i=some b:=fun i b hb'=>by
  by_cases hi:i∈ic
  ·rw[(h4c i hi).1]at hb';exact hptI i b hi hb'
  ·simp only[pt4,if_neg hi]at hb';exact hb'
 have h4w: ∀i b,i≠k0->ow4 i=some b->ow i=some b:=fun i b hk hb'=>by
  by_cases hi:i∈ic
  ·rw[(h4c i hi).2]at hb';exact howI i b hi hb'
  ·rw[(h4n i hi hk).2]at hb';exact hb'
 have hblc: ∀i b,bl pt4 ow4 i=some b->(i=k0/\vbl hE=some b)\/(i≠k0/\bl pt ow i=some b):=fun i b hb'=>by
  by_cases hk:i=k0
  ·refine .inl ⟨hk,?_⟩;subst hk;unfold bl at hb';rw[h4k.1,h4k.2]at hb';obtain⟨ao,n,cp,rfl⟩:=hE3.slice;cases ao<;>exact hb'
  ·refine .inr ⟨hk,?_⟩;unfold bl at hb'⊢
   cases hq:pt4 i with
   |some z=>rw[hq]at hb';rw[h4p i z hq];exact hb'
   |none=>
    rw[hq]at hb'
    cases hq2:ow4 i with
    |none=>rw[hq2]at hb';cases hb'
    |some z=>
     rw[hq2]at hb';rw[hg.ptow (h4w i z hk hq2),h4w i z hk hq2];exact hb'
 let hq:Hp:=zy (zcl σ.hp k0 (.buf e k (xs xE))) ic ib
 have hkk:jw σ.hp k0:=zm (by rw[hc1];simp);have hqc: ∀i,i∈ic->jw σ.hp i->hget hq i=hget (vg ic ib) i:=fun i hi hk=>by
  show hget (zy _ ic ib) i=_;rw[je hicnd hlib (xv.2 hk),if_pos hi]
 have hqd: ∀i,¬jw σ.hp i->hget hq i= .dead :=fun i hk=>by
  show hget (zy _ ic ib) i=_;rw[kc fun h'=>hk (xv.1 h')]
 have hqk:hget hq k0= .buf e k (xs xE):=by
  show hget (zy _ ic ib) k0=_;rw[je hicnd hlib (xv.2 hkk),if_neg hk0c,jf hkk]
 have hqo: ∀i,i∉ic->i≠k0->hget hq i=hget σ.hp i:=fun i h1 h2=>by
  by_cases hk:jw σ.hp i
  ·show hget (zy _ ic ib) i=_;rw[je hicnd hlib (xv.2 hk),if_neg h1,wp h2]
  ·rw[hqd i hk];cases h':hget σ.hp i<;>first|rfl|exact absurd (zm (by rw[h'];simp)) hk
 have hkeybl: ∀i b,bl pt ow i=some b->jw σ.hp i:=fun i b hb'=>by
  refine zm fun e=>?_
  unfold bl at hb';rw[hg.ptn (i:=i) (by rw[e];rfl),hg.own (i:=i) (by rw[e];rfl)]at hb';cases hb'
 have hH1c: ∀i,i∈ic->hget ((qu,.gst (J xE))::vg ic ib) i=hget (vg ic ib) i:=fun i hi=>by rw[hgetZ,if_neg (show ¬qu=i from fun e=>hcb (e▸hi))]
 have hfinal:Rel c ⟨σ.sl,hq⟩ {a with defers:= [{target:= .collected D,args:= #[]}]++a.defers} w4:=by
  refine⟨M4,pt4,ow4,S,?_,?_,?_⟩
  ·exact {
    os:=by rw[hw4];exact hleft.os.trans (he1.os.trans hg.os)
    tape:=by rw[hw4];exact hleft.tape.trans (he1.tape.trans hg.tape)
    output:=by rw[hw4];exact hleft.output.trans (he1.output.trans hg.output)
    size:=by have h1:=hg.size;have h2:=he1.size;have h3:=hleft.size;omega
    keep:=fun b hb' hm=>by
     have:=hg.size;have hno: ∀i,bl pt ow i≠some b:=fun i h1=>by
      rcases hg.loc i b h1 with h2|h2
      ·omega
      ·exact hm h2.1
     rw[hsame b (by omega) (fun i _=>hno i) (fun h1=>hno i0 (h1▸hbi0)) fun h1=>hno k0 (hbk0 b h1)];exact hg.keep b hb' hm
    fresh:=fun b hb'=>by rw[hw4sz];exact hcore3.fresh b hb'.1
    m0:=fun b hb'=>hMM b (hg.m0 b hb')
    m1:=hg.m1
    mt:=fun i b hb'=>by
     rcases hblc i b hb' with ⟨_,h1⟩|⟨_,h1⟩
     ·have:=hE4 b h1;exact⟨hcore3.gm b this.1,this.2.2.1⟩
     ·exact hMM b (hg.mt i b h1)
    gm:=fun b hb'=>hMM b (hg.gm b hb')
    gl:=hg.gl
    gd:=fun i b hb' hS=>by
     rcases hblc i b hb' with ⟨_,h1⟩|⟨_,h1⟩
     ·rcases hsE b h1 with h2|h2
      ·have:=hg.fresh b (hg.gm b hS);omega
      ·exact hg.gd k0 b (hbk0 b h2) hS
     ·exact hg.gd i b h1 hS
    loc:=fun i b hb'=>by
     rcases hblc i b hb' with ⟨h0,h1⟩|⟨_,h1⟩
     ·rcases hsE b h1 with h2|h2
      ·exact .inl (qD hg.size h2)
      ·rw[h0];exact hg.loc k0 b (hbk0 b h2)
     ·exact hg.loc i b h1
    farp:=fun i b hi hb'=>hg.farp i b hi (h4p i b hb')
    farw:=fun i b hi hb'=>hg.farw i b hi (h4w i b (by omega) hb')
    inj:=fun i j b hi hj=>by
     rcases hblc i b hi with ⟨h0,h1⟩|⟨h0,h1⟩<;>rcases hblc j b hj with ⟨h2,h3⟩|⟨h2,h3⟩
     ·rw[h0,h2]
     ·rcases hsE b h1 with h4|h4
      ·have:=hbllt j b h3;omega
      ·exact absurd (hg.inj j k0 b h3 (hbk0 b h4)) h2
     ·rcases hsE b h3 with h4|h4
      ·have:=hbllt i b h1;omega
      ·exact absurd (hg.inj i k0 b h1 (hbk0 b h4)) h0
     ·exact hg.inj i j b h1 h3
    dpt:=fun i b hb'=>by
     by_cases hi:i∈ic
     ·rw[hqc i hi (hkeybl i b (by simp[bl,h4p i b hb']))];rw[(h4c i hi).1]at hb';rw[←hH1c i hi];exact hcore3.dpt i b hb'
     ·by_cases hk:i=k0
      ·rw[hk,h4k.1]at hb';cases hb'
      ·rw[hqo i hi hk];exact hg.dpt i b (h4p i b hb')
    dow:=fun i b hb'=>by
     by_cases hk:i=k0
     ·rw[hk,hqk];rfl
     ·have h1:=hg.dow i b (h4w i b hk hb');by_cases hi:i∈ic
      ·rw[hqc i hi (zm fun e=>by rw[e]at h1;cases h1)];rw[(h4c i hi).2]at hb';rw[←hH1c i hi];exact hcore3.dow i b hb'
      ·rw[hqo i hi hk];exact h1
    blk:=fun i=>by
     by_cases hi:i∈ic
     ·by_cases hk:jw σ.hp i
      ·rw[hqc i hi hk];have h1:=hcore3.blk i;rw[hH1c i hi]at h1;have hne:i≠qu:=fun e=>hcb (e▸hi)
       cases e2:hget (vg ic ib) i with
       |gst J'=>rw[e2]at h1;exact absurd h1.1 hne
       |free=>trivial
       |dead=>trivial
       |cells m=>
        rw[e2]at h1;obtain⟨b,cs,Ty,h3,h4⟩:=h1;exact⟨b,cs,Ty,by rw[(h4c i hi).1];exact h3,by rw[hw4ne b fun e=>hcore3.gd i b (by simp[bl,h3]) (e▸hJ.sl_)];exact h4⟩
       |buf et k xs=>
        rw[e2]at h1;obtain⟨hd',h3,h4⟩:=h1;exact⟨hd',by rw[(h4c i hi).2];exact h3,h4.mono hV34 fun b cap cs hh hcs=>by rw[hw4ne b fun e=>hcore3.gd i b (by simp[bl,hcore3.ptow h3,h3,hh]) (e▸hJ.sl_)];exact hcs⟩
       |map kk vk m=>
        rw[e2]at h1;obtain⟨b,es,clk,h3,h4,h5⟩:=h1;exact⟨b,es,clk,by rw[(h4c i hi).1];exact h3,by rw[hw4ne b fun e=>hcore3.gd i b (by simp[bl,h3]) (e▸hJ.sl_)];exact h4,h5.mono hV34⟩
      ·rw[hqd i hk];trivial
     ·by_cases hk:i=k0
      ·rw[hk,hqk];exact⟨hE,h4k.2,hE3.mono hV34 fun b cap cs e1 e2=>by rw[hw4ne b (hE4 b (by rw[e1];rfl)).2.2.2];exact e2⟩
      ·rw[hqo i hi hk];by_cases hi2:i=i0
       ·rw[hi2,hc0];exact⟨b0,csE,TyE,by rw[(h4n i0 hi0c fun e=>hk0i e.symm).1];exact hp0,by rw[hw4ne b0 (by omega)];exact hE1⟩
       ·refine(hg.blk i).mono (h4n i hi hk).1 (h4n i hi hk).2 hV4 (fun _=>hg.ptow) (fun b o hb' hh=>?_) fun b o hS hh=>?_
        ·rw[hsame b (zf hh) (fun j hj h1=>hi (hg.inj i j b hb' h1▸hj)) (fun h1=>hi2 (hg.inj i i0 b hb' (h1▸hbi0))) fun h1=>hk (hg.inj i k0 b hb' (hbk0 b h1))];exact hh
        ·rw[hsame b (zf hh) (fun j _ h1=>hg.gd j b h1 hS) (fun h1=>hg.gd i0 b (h1▸hbi0) hS) fun h1=>hg.gd k0 b (hbk0 b h1) hS];exact hh}
  ·intro ptQ owQ hag;have hnf: ∀i,(hget σ.hp i).isFree =false->(hget hq i).isFree =false:=fun i hi0'=>by
    by_cases hi:i∈ic
    ·by_cases hk:jw σ.hp i
     ·rw[hqc i hi hk];exact ur hnfb
     ·rw[hqd i hk];rfl
    ·by_cases hk:i=k0
     ·rw[hk,hqk];rfl
     ·rw[hqo i hi hk];exact hi0'
   have hnfc': ∀i,i∈ic->(hget hq i).isFree =false:=fun i hi=>by
    by_cases hk:jw σ.hp i
    ·rw[hqc i hi hk];exact ur hnfb
    ·rw[hqd i hk];rfl
   let pt5:Nat->Option Nat:=fun i=>if(hget σ.hp i).isFree =true then ptQ i else pt i
   let ow5:Nat->Option Value:=fun i=>if(hget σ.hp i).isFree =true then owQ i else ow i
   have hag5:Agr σ.hp pt pt5 ow ow5:=fun i hi=>by simp[pt5,ow5,hi]
   have hp5: ∀i b,ptQ i=some b->pt5 i=some b:=fun i b hb'=>by
    by_cases hfr:(hget σ.hp i).isFree =true
    ·simpa[pt5,hfr]using hb'
    ·have hfr':(hget σ.hp i).isFree =false:=by simpa using hfr
     simp only[pt5,hfr',q9,if_false];rw[(hag i (hnf i hfr')).1]at hb';exact h4p i b hb'
   have ho5: ∀i b,i≠k0->owQ i=some b->ow5 i=some b:=fun i b hk hb'=>by
    by_cases hfr:(hget σ.hp i).isFree =true
    ·simpa[ow5,hfr]using hb'
    ·have hfr':(hget σ.hp i).isFree =false:=by simpa using hfr
     simp only[ow5,hfr',q9,if_false];rw[(hag i (hnf i hfr')).2]at hb';exact h4w i b hk hb'
   have hle5: ∀ids:List Nat,k0∉ids->Env.le ⟨zn w M,pt5,ow5⟩ ⟨zn w4 M4,ptQ,owQ⟩ ids:=fun ids zcc=>⟨hV4,fun i hi=>⟨hp5 i,fun b hb=>ho5 i b (fun e=>zcc (e▸hi)) hb⟩⟩
   obtain⟨h1,h2⟩:=hs pt5 ow5 hag5;refine⟨h1.imp _ _ (hle5 _ hk0sl),fun i m b cs Ty hm hb' hcs=>?_⟩;by_cases hi:i∈ic
   ·have hbo:=h4p i b hb';rw[hqc i hi (hkeybl i b (by simp[bl,hbo]))]at hm;rw[(h4c i hi).1]at hb';have hne:b≠l:=by have:=hptlt i b hbo;omega
    rw[hw4ne b hne]at hcs;refine Rs.imp (ρ:=⟨zn w3 M3,pt3,ow3⟩) m _ ⟨hV34,fun j hj=>?_⟩ (hconts3 i m b cs Ty (by rw[hH1c i hi];exact hm) hb' hcs);have hjc:j∈ic:=hsub1 j (ww hm j hj);have hx:=hag j (hnfc' j hjc);exact⟨fun z hz=>by have:=hx.1.symm.trans hz;rw[(h4c j hjc).1]at this;exact this,fun z hz=>by have:=hx.2.symm.trans hz;rw[(h4c j hjc).2]at this;exact this⟩
   ·by_cases hk:i=k0
    ·rw[hk,hqk]at hm;cases hm
    ·rw[hqo i hi hk]at hm;rw[(h4n i hi hk).1]at hb';by_cases hi2:i=i0
     ·rw[hi2]at hm hb';rw[hc0]at hm;cases hm
      rw[hp0]at hb';cases hb'
      rw[hw4ne b0 (by omega),hE1]at hcs;cases hcs
      rw[hE2];refine⟨⟨hE3.slice,fun x hx=>?_⟩,trivial⟩;have hx':owQ k0=some x:=hx;rw[(hag k0 (by rw[hqk];rfl)).2,h4k.2]at hx';exact Option.some.inj hx'
     ·obtain⟨b',cs',Ty',h3,h4⟩:=hg.cel i m hm;rw[hb']at h3;cases h3
      have hb'':bl pt ow i=some b:=by simp[bl,hb']
      rw[hsame b (zf h4) (fun j hj h1=>hi (hg.inj i j b hb'' h1▸hj)) (fun h1=>hi2 (hg.inj i i0 b hb'' (h1▸hbi0))) (fun h1=>hk (hg.inj i k0 b hb'' (hbk0 b h1))),h4]at hcs;cases hcs
      refine(h2 i m b cs Ty hm hb' h4).imp _ _ (hle5 _ fun hj=>hk0h ?_);exact ww (i:=i) (by rw[wp hi2];exact hm) k0 hj
  ·obtain⟨Ds,h1,h2,h3⟩:=hd;refine⟨D::Ds,by simp[h1,zcu],?_,fun d hd'=>?_⟩
   ·rw[List.nodup_cons];exact⟨fun h'=>by have:=zf (h3 D h').2.2;omega,h2⟩
   ·rcases q6.1 hd' with rfl|hd'
    ·exact⟨by rw[hD];exact hg.size,fun h'=>h'.2 rfl,by rw[hw4ne d (by omega)];exact hJ.hd⟩
    ·exact⟨(h3 d hd').1,hV4 _ _ (h3 d hd').2⟩
 have:rc.pending=none:=by simp[hrc]
 rw[this];exact hQ _ _ hfinal
end
theorem zqo {P:Program} {T:Tab} (hT:TabOK P T) (hmx:P.follows .mixedOrders =true) {res:List ResultVar} {ex:List Nat} {rv:AV} {H':Hp} {x asg body rest:Code} {id:Nat} {f:Operand} {ps:Array Tmp} {sl:List AV} {hp:Hp}
 (σ1:St) (hfr:zcw (zfk σ1.hp) σ1.ids=true)
 (h1:zj9 sl fun sl=>zrs hp fun hp=>zae T (CN P) x true ⟨sl,hp⟩ (fun σ=>leS σ σ1) (fun _ _=>False) (fun _=>False))
 {g:Nat} {caps:List AV} (hf:zj σ1.sl f= .fn g caps) {i0 k0 bi ob:Nat} {e:TypeId} {k:Elt} {X Y:Type} {xs:X->List k.T} {args:Y->List AV} {next:X->Y->X} {x₀ xE:X} {r:AV} {ib:List Blk} (hbi:bi=zdd i0)
 (hc0:hget σ1.hp i0= .cells [.own k0]) (hc1:hget σ1.hp k0= .buf e k (xs x₀)) (hok:roOk T σ1.sl σ1.hp g i0 k0 bi ob caps ib (zc T asg++zc T body)=true) (hargs: ∀y,zv5 (qs (args y))=true)
 (ok:X->Prop) (hcall: ∀(l:Nat) (J:X->GJ),(∀x y,ok x->zz3 P l [(qu,.gst (J x))] (args y) (.bool true) [(qu,.gst (J (next x y)))])->
   zkj P g ((qu,.gst (J x₀))::vg (nub (qs caps)) (zw σ1.hp (nub (qs caps)))) (.cb l::caps) r ((qu,.gst (J xE))::vg (nub (qs caps)) ib))
 (hbody: ∀x y,ok x-> ∃z,z≠bi/\zfc ps.toList (args y) (zfg [i0] σ1.sl) fun sl=>zrs (zdf (qj (zc T asg++zc T body)) (zns bi ob e k (xs x))) fun hp=>
   zae T (CN P) asg false ⟨sl,hp⟩ (fun τ=>zae T (CN P) body false τ (fun τ=>EndO bi z e k (xs (next x y)) τ) (fun _ _=>False) (fun _=>False)) (fun _ _=>False) (fun _=>False))
 (h2:SemOK P T res ex rv H' rest ⟨σ1.sl,zy (zcl σ1.hp k0 (.buf e k (xs xE))) (nub (qs caps)) ib⟩):
 SemOK P T res ex rv H' (.seq (.seq x (.block id (.rangeFunc f ps asg body))) rest) ⟨sl,hp⟩:=by
 rw[vl,kd,zch,zcg]at h1;refine⟨fun c0 a w Q hr hq=>wpIn_seq (wpIn_seq (zx hT hmx x true ⟨Fence.wide,.inl rfl⟩ c0 _ _ _ a w (fun _=>rfl) hr h1 fun ex1 σ' a' w' hr' hk'=>?_))⟩
 cases ex1 with
 |normal=>
  have hle:leS σ' σ1:=hk';have hr1:=hr'.weaken hle hfr;refine wpIn_block (zkw (T:=T) (fun F' c' σ'' K' Q' a'' w'' h' hk'' hQ'=>zx hT hmx asg false F' c' σ'' K' Q' a'' w'' (fun e=>by cases e) h' hk'' hQ')
   (fun F' c' σ'' K' Q' a'' w'' h' hk'' hQ'=>zx hT hmx body false F' c' σ'' K' Q' a'' w'' (fun e=>by cases e) h' hk'' hQ') hr1 hf hbi hc0 hc1 hok hargs ok hcall (fun xx y hxx=>?_) (fun a2 w2 hr2=>?_))
  ·obtain⟨z,hz,hb⟩:=hbody xx y hxx;obtain⟨hl,hb⟩:=zbz _ _ _ _ hb;refine⟨z,hz,zoj _ _ _ _ hl ?_⟩;rw[kd,zch,zcg]at hb;have e1: ∀(B:St->Prop),K3 B (fun _ _=>False) (fun _=>False)=fun x σ=>match x with
    | .normal =>B σ
    | _=>False:=fun B=>by funext x σ;cases x<;>rfl
   have e2:(fun τ=>zae T (CN P) body false τ (fun τ=>EndO bi z e k (xs (next xx y)) τ) (fun _ _=>False) (fun _=>False))=fun τ=>wv T (CN P) false body τ (K3 (fun τ=>EndO bi z e k (xs (next xx y)) τ) (fun _ _=>False) (fun _=>False)):=by
    funext τ;rw[zch,zcg]
   rw[e2,e1]at hb;simp only[e1]at hb;exact hb
  ·exact h2.sem c0 a2 w2 Q hr2 hq
 | _=>exact hk'.elim
theorem zbo {hp:Hp} {k:Nat} {b:Blk} (hk: ¬jw hp k) (i:Nat):hget (hp++ [(k,b)]) i=if i=k then b else hget hp i:=by
 induction hp with
 |nil=>
  rw[List.nil_append,zd];by_cases e:k=i
  ·rw[if_pos e,if_pos e.symm]
  ·rw[if_neg e,if_neg fun h=>e h.symm]
 |cons x r ih=>
  obtain⟨a,y⟩:=x;have hak:a≠k:=fun e=>hk (by simp[jw,e])
  have hr: ¬jw r k:=fun e=>hk (by simp only[jw,List.map_cons,q6];exact .inr e)
  rw[qA,zd,zd,ih hr];by_cases e:a=i
  ·rw[if_pos e,if_pos e,if_neg fun h=>hak (e.trans h)]
  ·rw[if_neg e,if_neg e]
theorem Rel.addKey {c:Ctx} {sl:List AV} {hp:Hp} {a:Act} {w:World} (h:Rel c ⟨sl,hp⟩ a w) {k:Nat} (hk: ¬jw hp k) (h1:k∉qs sl) (h2:k∉zcc hp):Rel c ⟨sl,hp++ [(k,.free)]⟩ a w:=by
 obtain⟨M,pt,ow,S,hg,hs,hd⟩:=h;have hdead:hget hp k= .dead :=by
  cases e:hget hp k<;>first|rfl|exact absurd (zm (by rw[e];simp)) hk
 have hp0:pt k=none:=hg.ptn (by rw[hdead];rfl);have ho0:ow k=none:=hg.own (by rw[hdead];rfl);refine⟨M,pt,ow,S,?_,?_,hd⟩
 ·exact {
   os:=hg.os,tape:=hg.tape,output:=hg.output,size:=hg.size,keep:=hg.keep,fresh:=hg.fresh,m0:=hg.m0,m1:=hg.m1,mt:=hg.mt,loc:=hg.loc,farp:=hg.farp,farw:=hg.farw,inj:=hg.inj,gm:=hg.gm,gl:=hg.gl,gd:=hg.gd
   dpt:=fun i b hb=>by
    rw[zbo hk,if_neg fun e=>by rw[e,hp0]at hb;cases hb];exact hg.dpt i b hb
   dow:=fun i b hb=>by
    rw[zbo hk,if_neg fun e=>by rw[e,ho0]at hb;cases hb];exact hg.dow i b hb
   blk:=fun i=>by
    rw[zbo hk];split
    ·trivial
    ·exact hg.blk i}
 ·intro pt' ow' hag
  let pt2:Nat->Option Nat:=fun i=>if i=k then none else pt' i
  let ow2:Nat->Option Value:=fun i=>if i=k then none else ow' i
  have hag2:Agr hp pt pt2 ow ow2:=fun i hi=>by
   by_cases e:i=k
   ·subst e;simp only[pt2,ow2,if_true];exact⟨hp0.symm,ho0.symm⟩
   ·simp only[pt2,ow2,if_neg e];exact hag i (by rw[zbo hk,if_neg e];exact hi)
  have hle: ∀ids:List Nat,k∉ids->Env.le ⟨zn w M,pt2,ow2⟩ ⟨zn w M,pt',ow'⟩ ids:=fun ids hid=>⟨fun _ _ h=>h,fun i hi=>by
   have e:i≠k:=fun e=>hid (e▸hi)
   exact⟨fun b hb=>by show pt2 i=some b;simp only[pt2,if_neg e];exact hb,fun b hb=>by show ow2 i=some b;simp only[ow2,if_neg e];exact hb⟩⟩
  obtain⟨h3,h4⟩:=hs pt2 ow2 hag2;refine⟨h3.imp _ _ (hle _ h1),fun i l b cs T hl hb hcs=>?_⟩;rw[zbo hk]at hl;split at hl
  ·cases hl
  ·exact(h4 i l b cs T hl hb hcs).imp _ _ (hle _ fun hj=>h2 (ww hl k hj))
theorem qa3 {P:Program} {T:Tab} {res:List ResultVar} {ex:List Nat} {rv:AV} {H':Hp} {c:Code} {sl:List AV} {hp:Hp} (k:Nat) (hk:zcw [k] (keys hp++qs sl++zcc hp)=true)
 (h:SemOK P T res ex rv H' c ⟨sl,hp++ [(k,.free)]⟩):SemOK P T res ex rv H' c ⟨sl,hp⟩:=by
 have h0:=(wu _ _).1 hk k (by simp);simp only[q7,not_or]at h0;exact⟨fun c0 a w Q hr hq=>h.sem c0 a w Q (hr.addKey (fun e=>h0.1.1 (zc8.2 e)) h0.1.2 h0.2) hq⟩
structure LeftB (B:List Nat) (w w':World) (M M':Nat->Prop) (pt:Nat->Option Nat) (ow:Nat->Option Value) (pt':Nat->Option Nat) (ow':Nat->Option Value):Prop where
 os:w'.os=w.os
 tape:w'.tape=w.tape
 output:w'.output=w.output
 size:w.heap.size<=w'.heap.size
 same: ∀b,b<w.heap.size->(∀i,bl pt ow i≠some b)->w'.heap[b]? =w.heap[b]?
 mm: ∀b,M b->M' b
 mn: ∀b,M' b->M b\/w.heap.size<=b
 lept: ∀i b,pt' i=some b->pt i=some b
 leow: ∀i h,ow' i=some h->ow i=some h\/(i∈B/\ ∀b,vbl h=some b->w.heap.size<=b\/ ∃j,bl pt ow j=some b)
def AnsB (B:List Nat) (w:World) (M:Nat->Prop) (pt:Nat->Option Nat) (ow:Nat->Option Value) (r:AV) (H':Hp) (e:Ending) (w':World):Prop:=
 ∃v M' pt' ow',e= .returned v/\Core M' pt' ow' (fun _=>False) H' w'/\zfn H' w' M' pt' ow' pt' ow'/\R ⟨zn w' M',pt',ow'⟩ r v/\LeftB B w w' M M' pt ow pt' ow'
def FnRB (P:Program) (f:Nat) (B:List Nat):CT:=fun H A r H'=>
 Ent P f/\ ∀(w:World) (M:Nat->Prop) (pt:Nat->Option Nat) (ow:Nat->Option Value) (vs:List Value),Core M pt ow (fun _=>False) H w->zfn H w M pt ow pt ow->Rs ⟨zn w M,pt,ow⟩ A vs->
  Calls P f vs.toArray w (AnsB B w M pt ow r H')
section
variable {P:Program} {c:Ctx} {σ:St} {a:Act} {w:World}
open Classical in
end
def farC:List Nat->Bool
 | []=>true
 |i::l=>q4 1000000 i&&q4 i 1999998&&farC l
def kOk (B:List Nat):List Nat->Bool
 | []=>true
 |i::l=>q4 1000000 i&&q4 i 1999998&&(Nat.blt i 1500000||zfi i B)&&kOk B l
def zk9:List Blk->Bool
 | []=>true
 | .gst _::_=>false
 | _::l=>zk9 l
theorem zpn: ∀ {l:List Nat},farC l=true-> ∀i∈l,1000000<=i/\i<=1999998
 | [],_,i,hi=>by cases hi
 |j::l,h,i,hi=>by
  simp only[farC,q3]at h;rcases q6.1 hi with rfl|hi
  ·exact⟨q2 h.1.1,q2 h.1.2⟩
  ·exact zpn h.2 i hi
theorem znh {B:List Nat}: ∀ {l:List Nat},kOk B l=true-> ∀i∈l,(1000000<=i/\i<=1999998)/\(i<1500000\/i∈B)
 | [],_,i,hi=>by cases hi
 |j::l,h,i,hi=>by
  simp only[kOk,q3,qC]at h;rcases q6.1 hi with rfl|hi
  ·refine⟨⟨q2 h.1.1.1,q2 h.1.1.2⟩,h.1.2.imp (fun h=>?_) (jn _ _).1⟩;rw[Nat.blt_eq]at h;exact h
  ·exact znh h.2 i hi
theorem zk8: ∀ {H:Hp},zk9 (zrh H)=true-> ∀i J,hget H i≠ .gst J
 | [],_,i,J,h=>by simp[hget]at h
 |(j,b)::r,hn,i,J,h=>by
  rw[zd]at h;have hr:zk9 (zrh r)=true/\ ∀J,b≠ .gst J:=by
   cases b<;>first|(simp[zrh,zk9]at hn;done)|exact⟨by simpa[zrh,zk9]using hn,fun J e=>by cases e⟩
  split at h
  ·exact hr.2 J h
  ·exact zk8 hr.1 i J h
def fnCB (T:Tab) (B:List Nat) (c:Code) (n:Nat) (H:Hp) (A:List AV) (H':Hp) (W:St->Prop):Prop:=
 zj9 (A++zf1 (n-A.length)) fun sl=>zrs (zdf (qj (zc T c)) H) fun hp=>
  match zcw (zc T c) (qs A++zcc H),zcw (zc T c) (keys H),farC (keys H),kOk B (keys H'),uh (zrh H),zdt (keys H'),zk9 (zrh H')with
  |true,true,true,true,true,true,true=>W ⟨sl,hp⟩
  | _,_,_,_,_,_,_=>False
section
variable {P:Program} {T:Tab}
open Classical in
set_option maxHeartbeats 1000000 in
theorem zui (hT:TabOK P T) {f:Nat} {fn:Func} {code:Code} (hf:P.funcs[f]? =some fn) (hb:fn.body=some code) (hname:(fn.name== "runtime.NumGoroutine")=false)
 {B:List Nat} (ex:List Nat) {H H':Hp} {A:List AV} {r:AV} (h:fnCB T B code fn.ntmps H A H' (SemOK P T fn.results.toList ex r H' code)):FnRB P f B H A r H':=by
 unfold fnCB at h;rw[vl,kd]at h;split at h
 case h_2=>exact h.elim
 rename_i hd1 hd2 hfar hfar' hnf hnod hng;have hk:=h;rw[wu]at hd1 hd2;have hnod:=zak hnod;rw[znt]at hnf;refine⟨⟨fn,hf,by rw[hb];rfl,hname⟩,fun w M pt ow vs hcore hcont hargs=>?_⟩
 let c0:Ctx:= {M0:=M,w0:=w,mine:=fun b=> ∃i,bl pt ow i=some b,sm:=fun _=>False,pt0:=pt,ow0:=ow}
 have hkout: ∀i,jw H i->i∉zc T code:=fun i hi hj=>hd2 i hj (zc8.2 hi)
 have hback: ∀i x,hget (zdf (qj (zc T code)) H) i=x->x≠ .free ->hget H i=x:=fun i x hx hn=>by
  by_cases hi:i∈zc T code
  ·rw[jq hi]at hx;exact absurd hx.symm hn
  ·rw[zr hi]at hx;exact hx
 have hlen:=hargs.length;have hkpt: ∀i,(hget H i).isPt =true->jw H i:=fun i hi=>zm fun e=>by rw[e]at hi;cases hi
 have hkow: ∀i,(hget H i).isBuf =true->jw H i:=fun i hi=>zm fun e=>by rw[e]at hi;cases hi
 have hg0:Good c0 M pt ow (fun _=>False) (zdf (qj (zc T code)) H) w:= {
  os:=rfl,tape:=rfl,output:=rfl,size:=qB _,keep:=fun _ _ _=>rfl,fresh:=hcore.fresh,m0:=fun _ h=>h,m1:=hcore.fresh,mt:=hcore.mt
  gm:=hcore.gm,gd:=hcore.gd,gl:=fun b hb=>hb.elim
  loc:=fun i b hb=> .inr ⟨⟨i,hb⟩,by
   have hk:jw H i:=by
    unfold bl at hb
    cases hq:pt i with
    |some z=>exact hkpt i (hcore.dpt i z hq)
    |none=>
     rw[hq]at hb
     cases hq2:ow i with
     |none=>rw[hq2]at hb;cases hb
     |some z=>exact hkow i (hcore.dow i z hq2)
   exact(zpn hfar i (zc8.2 hk)).1⟩
  farp:=fun _ _ _ h=>h,farw:=fun _ _ _ h=> .inl h
  inj:=hcore.inj
  dpt:=fun i b hb=>by rw[zr (hkout i (hkpt i (hcore.dpt i b hb)))];exact hcore.dpt i b hb
  dow:=fun i b hb=>by rw[zr (hkout i (hkow i (hcore.dow i b hb)))];exact hcore.dow i b hb
  blk:=fun i=>by
   by_cases hi:i∈zc T code
   ·rw[jq hi];trivial
   ·rw[zr hi];exact hcore.blk i}
 have hfree: ∀i,i∈qs A++zcc H->(hget (zdf (qj (zc T code)) H) i).isFree =false:=fun i hi=>by
  rw[zr fun hj=>hd1 i hj hi];exact zc2 hnf
 have hrel:Rel c0 ⟨A++zf1 (fn.ntmps-A.length),zdf (qj (zc T code)) H⟩ {tmps:=vs.toArray++Array.replicate (fn.ntmps-vs.toArray.size) undef,defers:= []} w:=by
  refine⟨M,pt,ow,fun _=>False,hg0,fun pt' ow' hag=>?_,.nil⟩;have hle: ∀is:List Nat,(∀i∈is,i∈qs A++zcc H)->Env.le ⟨zn w M,pt,ow⟩ ⟨zn w M,pt',ow'⟩ is:=fun is his=>⟨fun _ _ h=>h,fun i hi=>by
   have:=hag i (hfree i (his i hi));exact⟨fun b hb=>by change pt' i=some b at hb;rw[this.1]at hb;exact hb,fun b hb=>by change ow' i=some b at hb;rw[this.2]at hb;exact hb⟩⟩
  refine⟨?_,fun i l b cs Ty hl hb hcs=>?_⟩
  ·have h1:=hargs.imp A _ (hle _ fun i hi=>by simp[hi]);have h2:=znu (ρ:=⟨zn w M,pt',ow'⟩) (fn.ntmps-A.length);have:=h1.append h2;rw[hlen]at this⊢;simpa using this
  ·have hl':=hback i _ hl (by simp);exact(hcont i l b cs Ty hl' hb hcs).imp _ _ (hle _ fun j hj=>by simp only[q7];exact .inr (ww hl' j hj))
 have hfin: ∀(σ:St) (a:Act) (w':World),Rel c0 σ a w'->zhy T fn.results.toList ex r H' σ->LeavesInM Fence.wide 0 P fn a.tmps (AnsB B w M pt ow r H') a.defers .returning w':=by
  intro σ a w' hr hK;obtain⟨_,_,_,_,_,_,Ds,hDs,_⟩:=id hr;obtain⟨tm,ds⟩:=a;simp only at hDs;subst hDs;refine zbk tm (fun w' hr=>?_) Ds w' hr;unfold zhy at hK;obtain⟨l1,hK,_⟩:=zah hT hr _ _ hK;obtain⟨σ',hr',hK⟩:=ui hr hK;obtain⟨l,⟨hleA,hleH⟩,vs',hrun,hrs⟩:=zah hT hr' _ _ hK;obtain⟨M1,pt1,ow1,S1,hg,hs,_⟩:=hr';obtain⟨v,hv,hRv⟩:=zgd hrun (hrs M1 pt1 ow1 S1 hg hs);refine⟨v,hv,?_⟩;obtain⟨ptN,owN,hgN,hless,hcel⟩:=hg.weaken (zfu hleH);have hlo: ∀i,i∈keys H'->1000000<=i/\i<=1999998:=fun i hi=>(znh hfar' i hi).1
  have hex: ∀i,i∈keys H'->exI ex i=i:=fun i hi=>zzp (by have:=hlo i hi;omega)
  have hinj: ∀i,i∈keys H'-> ∀j∈keys H',exI ex j=exI ex i->j=i:=fun i hi j hj e=>by rwa [hex i hi,hex j hj]at e
  have hgetm: ∀i,i∈keys H'->hget (zfr (exI ex) H') (exI ex i)=(hget H' i).mapI (exI ex):=fun i hi=>zgv _ hi (hinj i hi)
  have hkeyH': ∀i,hget H' i≠ .dead ->i∈keys H':=fun i hi=>zc8.2 (zm hi)
  let ptF:Nat->Option Nat:=fun i=>if i∈keys H' then ptN (exI ex i)else none
  let owF:Nat->Option Value:=fun i=>if i∈keys H' then owN (exI ex i)else none
  let MF:Nat->Prop:=fun b=>M b\/ ∃i,i∈keys H'/\bl ptN owN i=some b
  have hF: ∀i,i∈keys H'->ptF i=ptN i/\owF i=owN i:=fun i hi=>by simp only[ptF,owF,if_pos hi,hex i hi];exact⟨trivial,trivial⟩
  have hF': ∀i,i∈keys H'->ptF i=ptN (exI ex i)/\owF i=owN (exI ex i):=fun i hi=>by rw[hex i hi];exact hF i hi
  have hFp: ∀i b,ptF i=some b->i∈keys H'/\ptN i=some b:=fun i b hb=>by
   by_cases hi:i∈keys H'
   ·exact⟨hi,by rw[(hF i hi).1]at hb;exact hb⟩
   ·simp only[ptF,if_neg hi]at hb;cases hb
  have hFw: ∀i b,owF i=some b->i∈keys H'/\owN i=some b:=fun i b hb=>by
   by_cases hi:i∈keys H'
   ·exact⟨hi,by rw[(hF i hi).2]at hb;exact hb⟩
   ·simp only[owF,if_neg hi]at hb;cases hb
  have hFb: ∀i b,bl ptF owF i=some b->i∈keys H'/\bl ptN owN i=some b:=fun i b hb=>by
   by_cases hi:i∈keys H'
   ·exact⟨hi,by simpa only[bl,(hF i hi).1,(hF i hi).2]using hb⟩
   ·simp only[bl,ptF,owF,if_neg hi]at hb;cases hb
  have hMF1: ∀b,MF b->M1 b:=fun b hb=>by
   rcases hb with h1|⟨i,_,h1⟩
   ·exact hgN.m0 b h1
   ·exact hgN.mt i b h1
  have hV: ∀b o,zn w' M1 b o->zn w' MF b o:=zt fun b o hm hb=>⟨fun h'=>hm (hMF1 b h'),hb⟩
  have hR1: ∀(x:AV) (y:Value),R ⟨zn w' M1,ptN,owN⟩ (x.mapI (exI ex)) y->R ⟨zn w' MF,ptF,owF⟩ x y:=fun x y hx=>by
   have h1:=(R.mapI (V:=zn w' M1) (f:=exI ex) (pt:=fun i=>ptN (exI ex i)) (ow:=fun i=>owN (exI ex i)) (pt':=ptN) (ow':=owN) x y fun i _=>⟨rfl,rfl⟩).1 hx;exact h1.imp x y ⟨hV,fun i _=>⟨fun b hb=>by
    obtain⟨h2,h3⟩:=hFp i b hb;show ptN (exI ex i)=some b;rw[hex i h2];exact h3,fun b hb=>by
    obtain⟨h2,h3⟩:=hFw i b hb;show owN (exI ex i)=some b;rw[hex i h2];exact h3⟩⟩
  have hR2: ∀(x:List AV) (y:List Value),Rs ⟨zn w' M1,ptN,owN⟩ (zad (exI ex) x) y->Rs ⟨zn w' MF,ptF,owF⟩ x y:=fun x y hx=>by
   have h1:=(Rs.mapI (V:=zn w' M1) (f:=exI ex) (pt:=fun i=>ptN (exI ex i)) (ow:=fun i=>owN (exI ex i)) (pt':=ptN) (ow':=owN) x y fun i _=>⟨rfl,rfl⟩).1 hx;exact h1.imp x y ⟨hV,fun i _=>⟨fun b hb=>by
    obtain⟨h2,h3⟩:=hFp i b hb;show ptN (exI ex i)=some b;rw[hex i h2];exact h3,fun b hb=>by
    obtain⟨h2,h3⟩:=hFw i b hb;show owN (exI ex i)=some b;rw[hex i h2];exact h3⟩⟩
  refine⟨v,MF,ptF,owF,rfl,?_,?_,hR1 r v (R.le _ _ _ hleA (hless _) hRv),?_⟩
  ·exact {
    fresh:=fun b hb=>hgN.fresh b (hMF1 b hb)
    mt:=fun i b hb=>by
     obtain⟨hi,hb'⟩:=hFb i b hb;exact .inr ⟨i,hi,hb'⟩
    inj:=fun i j b hi hj=>hgN.inj i j b (hFb i b hi).2 (hFb j b hj).2
    gm:=fun b hb=>hb.elim
    gd:=fun i b _ hS=>hS
    dpt:=fun i b hb=>by
     obtain⟨hi,hb'⟩:=hFp i b hb;have:=hgN.dpt _ b hb';have e:=hgetm i hi;rw[hex i hi]at e;rw[e,zal]at this;exact this
    dow:=fun i b hb=>by
     obtain⟨hi,hb'⟩:=hFw i b hb;have:=hgN.dow _ b hb';have e:=hgetm i hi;rw[hex i hi]at e;rw[e,yx]at this;exact this
    blk:=fun i=>by
     by_cases hi:i∈keys H'
     ·have h1:=hgN.blk (exI ex i);rw[hgetm i hi]at h1;have h2:=h1.unren (pt':=ptF) (ow':=owF) (i:=i) (exI ex) (hF' i hi).1 (hF' i hi).2 fun e=>by
       rw[hex i hi]at e;exact e
      have h3:=h2.mono (w':=w') (V':=zn w' MF) rfl rfl hV (fun x hx=>by
       obtain⟨_,hx'⟩:=hFw i x hx;rw[(hF i hi).1];exact hgN.ptow hx') (fun _ _ _ h=>h) (fun _ _ _ h=>h)
      have h4:=h3.ren (pt':=ptF) (ow':=owF) (S':=fun _=>False) (i:=i) id rfl rfl (fun e=>by
       have:=hlo i hi;simp only[qu]at e;omega)
      rwa [Blk.mapI_id']at h4
     ·have:hget H' i= .dead :=by
       cases e:hget H' i<;>first|rfl|exact absurd (hkeyH' i (by rw[e];simp)) hi
      rw[this];trivial}
  ·intro i m b cs Ty hm hb' hcs;obtain⟨hi,hb''⟩:=hFp i b hb';have h1:=hgetm i hi;rw[hm]at h1;simp only[Blk.mapI]at h1;obtain⟨l0,h2,h3,h4⟩:=hcel _ _ h1;rw[hex i hi]at h2 h4;rw[h4]at hb'';exact hR2 m _ (Rs.le _ _ _ h3 (hless _) ((hs pt1 ow1 (Agr.refl _ _ _)).2 _ l0 b cs Ty h2 hb'' hcs))
  ·exact {
    os:=hgN.os,tape:=hgN.tape,output:=hgN.output,size:=hgN.size
    same:=fun b hb hn=>hgN.keep b hb fun⟨i,hi⟩=>hn i hi
    mm:=fun b hb=> .inl hb
    mn:=fun b hb=>by
     rcases hb with h1|⟨i,hi,h1⟩
     ·exact .inl h1
     ·rcases hgN.loc i b h1 with h2|⟨⟨j,h2⟩,_⟩
      ·exact .inr h2
      ·exact .inl (hcore.mt j b h2)
    lept:=fun i b hb=>by
     obtain⟨hi,hb'⟩:=hFp i b hb;exact hgN.farp i b (hlo i hi).1 hb'
    leow:=fun i x hx=>by
     obtain⟨hi,hx'⟩:=hFw i x hx;rcases hgN.farw i x (hlo i hi).1 hx' with h1|h1
     ·exact .inl h1
     ·rcases(znh hfar' i hi).2 with h2|h2
      ·omega
      ·refine .inr ⟨h2,fun b hb=>?_⟩;have hbl:bl ptN owN i=some b:=by
        unfold bl;rw[hgN.ptow hx',hx'];cases x<;>first|exact hb|(simp[vbl]at hb;done)|(rename_i ao _ _;cases ao<;>first|exact hb|(simp[vbl]at hb;done))
       rcases hgN.loc i b hbl with h3|⟨h3,_⟩
       ·exact .inl h3
       ·exact .inr h3}
 refine callsIn_wide.1 (callsIn_of_wp_marks (n:=0) hf hb trivial (hk.sem c0 _ _ _ hrel fun e σ a w' hr hK=>?_))
 cases e with
 |normal=>exact hfin σ a w' hr hK
 |ret=>exact hfin σ a w' hr hK
 | _=>exact hK.elim
end
structure Tri (P:Program) (c:Code) (σ:St) (K:Exit->St->Prop):Prop where
 run: ∀(c0:Ctx) (a:Act) (w:World) (Q:Exit->Act->World->Prop),Rel c0 σ a w->(∀e σ a w,Rel c0 σ a w->K e σ->Q e a w)->c.wpIn Fence.wide 0 P Q a w
section
variable {P:Program} {T:Tab}
theorem qak {x y:Code} {σ:St} {n m:St->Prop} {e:Nat->St->Prop} {r:St->Prop} (h1:Tri P x σ (K3 m e r)) (h2: ∀τ,m τ->Tri P y τ (K3 n e r)):Tri P (.seq x y) σ (K3 n e r):=by
 refine⟨fun c0 a w Q hr hq=>wpIn_seq (h1.run c0 a w _ hr fun ex τ a w hr hk=>?_)⟩
 cases ex with
 |normal=>exact(h2 τ hk).run c0 a w Q hr hq
 |exit i=>exact hq _ _ _ _ hr hk
 |ret=>exact hq _ _ _ _ hr hk
 | _=>exact hk.elim
theorem zoa {x:Code} {σ:St} {K K':Exit->St->Prop} (h:Tri P x σ K) (hk: ∀e τ,K e τ->K' e τ):Tri P x σ K':=
 ⟨fun c0 a w Q hr hq=>h.run c0 a w Q hr fun e τ a w hr h=>hq e τ a w hr (hk e τ h)⟩
theorem zr0 {id:Nat} {x:Code} {σ:St} {n:St->Prop} {e:Nat->St->Prop} {r:St->Prop}
 (h:Tri P x σ (K3 n (fun i σ=>match q5 i id with|true=>n σ|false=>e i σ) r)):Tri P (.block id x) σ (K3 n e r):=by
 refine⟨fun c0 a w Q hr hq=>wpIn_block (h.run c0 a w _ hr fun ex τ a w hr hk=>?_)⟩
 cases ex with
 |normal=>exact hq _ _ _ _ hr hk
 |exit i=>
  have hk:(match q5 i id with|true=>n τ|false=>e i τ):=hk;simp only[Exit.inBlock]
  cases e2:q5 i id with
  |true=>simp only[e2]at hk;rw[if_pos ((zb _ _).1 e2)];exact hq _ _ _ _ hr hk
  |false=>simp only[e2]at hk;rw[if_neg ((zq _ _).1 e2)];exact hq _ _ _ _ hr hk
 |ret=>exact hq _ _ _ _ hr hk
 | _=>exact hk.elim
theorem zwg {x:Code} {σ:St} {n:St->Prop} {e:Nat->St->Prop} {r:St->Prop} {X:Type} (σm:X->St) (I:X->Prop) (μ:X->Nat) (x₀:X) (h0:I x₀) (hle:leS σ (σm x₀)) (hfr: ∀x,I x->zcw (zfk (σm x).hp) (σm x).ids =true)
 (h: ∀y,I y->Tri P x (σm y) (K3 (fun τ=> ∃y',I y'/\μ y'<μ y/\leS τ (σm y')) e r)):Tri P (.loop x) σ (K3 n e r):=by
 refine⟨fun c0 a w Q hr hq=>?_⟩;refine zdg (F:=⟨Fence.wide,.inl rfl⟩) (I:=I) (J:=fun y a w=>Rel c0 (σm y) a w) (μ:=μ) h0 (hr.weaken hle (hfr x₀ h0)) fun y a' w' hy hj=>?_
 refine(h y hy).run c0 a' w' _ hj fun ex τ a w hr hk=>?_
 cases ex with
 |normal=>
  obtain⟨y',hy',hlt,hle⟩:=hk;exact⟨y',hy',hr.weaken hle (hfr y' hy'),hlt⟩
 |exit i=>exact hq _ _ _ _ hr hk
 |ret=>exact hq _ _ _ _ hr hk
 | _=>exact hk.elim
def qf2:Blk->Bool
 | .dead =>true
 | _=>false
def qan (hp:Hp) (i j:Nat):Bool:=
 qar [(i,j)]&&(q4 j 999999||q4 1000000 i)&&(q4 i 999999||(q4 1500000 i&&q4 i 1999998))&&qf2 (hget hp i)&&(hget hp j).isBuf
theorem Rel.swap {c:Ctx} {sl:List AV} {hp:Hp} {a:Act} {w:World} (h:Rel c ⟨sl,hp⟩ a w) {i j:Nat} (hok:qan hp i j=true):Rel c ⟨zad (sw [(i,j)]) sl,zfr (sw [(i,j)]) hp⟩ a w:=by
 obtain⟨M,pt,ow,S,hg,hs,hd⟩:=h;simp only[qan,q3,qC]at hok;obtain⟨⟨⟨⟨h1,h2⟩,h3⟩,h4⟩,h5⟩:=hok;have hff: ∀x,sw [(i,j)] (sw [(i,j)] x)=x:=fun x=>qao x h1
 have hhi: ∀x,1999999<=x->sw [(i,j)] x=x:=fun x hx=>qaq h1 hx
 have hsw: ∀x,sw [(i,j)] x=if x=i then j else if x=j then i else x:=fun x=>by
  simp only[sw]
  cases e1:q5 x i with
  |true=>rw[if_pos ((zb _ _).1 e1)]
  |false=>
   rw[if_neg ((zq _ _).1 e1)]
   cases e2:q5 x j with
   |true=>rw[if_pos ((zb _ _).1 e2)]
   |false=>rw[if_neg ((zq _ _).1 e2)]
 have hdead:hget hp i= .dead :=by
  cases e:hget hp i<;>first|rfl|(rw[e]at h4;cases h4)
 have hpi:pt i=none:=hg.ptn (by rw[hdead];rfl);have hoi:ow i=none:=hg.own (by rw[hdead];rfl);have hpj:pt j=none:=hg.ptn (by
  cases e:hget hp j<;>first|rfl|(rw[e]at h5;cases h5))
 have hj1:q4 j 999999=true->j<=999999:=q2;have hc:=hg.toCore.domap (sw [(i,j)]) hff hhi;have hbl: ∀x b,bl (fun x=>pt (sw [(i,j)] x)) (fun x=>ow (sw [(i,j)] x)) x=some b->(x=i/\bl pt ow j=some b)\/(x≠i/\x≠j/\bl pt ow x=some b):=fun x b hb=>by
  have hb:bl pt ow (sw [(i,j)] x)=some b:=hb;rw[hsw]at hb;by_cases e1:x=i
  ·rw[if_pos e1]at hb;exact .inl ⟨e1,hb⟩
  ·rw[if_neg e1]at hb;by_cases e2:x=j
   ·rw[if_pos e2]at hb;unfold bl at hb;rw[hpi,hoi]at hb;cases hb
   ·rw[if_neg e2]at hb;exact .inr ⟨e1,e2,hb⟩
 refine⟨M,fun x=>pt (sw [(i,j)] x),fun x=>ow (sw [(i,j)] x),S,?_,?_,hd⟩
 ·exact {hc with
   os:=hg.os,tape:=hg.tape,output:=hg.output,size:=hg.size,keep:=hg.keep,m0:=hg.m0,m1:=hg.m1,gl:=hg.gl
   loc:=fun x b hb=>by
    rcases hbl x b hb with ⟨rfl,h6⟩|⟨_,_,h6⟩
    ·rcases hg.loc j b h6 with h7|⟨h7,h8⟩
     ·exact .inl h7
     ·rcases h2 with h2|h2
      ·have:=q2 h2;omega
      ·exact .inr ⟨h7,q2 h2⟩
    ·exact hg.loc x b h6
   farp:=fun x b hx hb=>by
    have hb:pt (sw [(i,j)] x)=some b:=hb;rw[hsw]at hb;by_cases e1:x=i
    ·rw[if_pos e1,hpj]at hb;cases hb
    ·rw[if_neg e1]at hb;by_cases e2:x=j
     ·rw[if_pos e2,hpi]at hb;cases hb
     ·rw[if_neg e2]at hb;exact hg.farp x b hx hb
   farw:=fun x b hx hb=>by
    have hb:ow (sw [(i,j)] x)=some b:=hb;rw[hsw]at hb;by_cases e1:x=i
    ·subst e1;rcases h3 with h3|h3
     ·have:=q2 h3;omega
     ·exact .inr ⟨q2 h3.1,q2 h3.2⟩
    ·rw[if_neg e1]at hb;by_cases e2:x=j
     ·rw[if_pos e2,hoi]at hb;cases hb
     ·rw[if_neg e2]at hb;exact hg.farw x b hx hb}
 ·intro pt3 ow3 hag;have hag4:Agr hp pt (fun x=>pt3 (sw [(i,j)] x)) ow (fun x=>ow3 (sw [(i,j)] x)):=fun x hx=>by
   have:=hag (sw [(i,j)] x) (by
    show(hget (zfr (sw [(i,j)]) hp) (sw [(i,j)] x)).isFree =false;rw[ja _ _ hff,zc4];exact hx)
   simp only[hff]at this;exact this
  obtain⟨h6,h7⟩:=hs _ _ hag4;refine⟨(Rs.mapI sl _ fun x _=>⟨rfl,rfl⟩).2 h6,fun x l b cs Ty hl hb hcs=>?_⟩;have hl:hget (zfr (sw [(i,j)]) hp) x= .cells l:=hl;have hq:=ja (H:=hp) (i:=sw [(i,j)] x) (sw [(i,j)]) (sw [(i,j)]) hff;rw[hff,hl]at hq;obtain⟨m,hm,rfl⟩:=zb7 hq.symm;exact(Rs.mapI m _ fun x _=>⟨rfl,rfl⟩).2 (h7 _ m b cs Ty hm hb hcs)
theorem zjg {res:List ResultVar} {ex:List Nat} {rv:AV} {H':Hp} {c:Code} {sl:List AV} {hp:Hp} (i j:Nat) (hok:qan hp i j=true) (h:SemOK P T res ex rv H' c ⟨zad (sw [(i,j)]) sl,zfr (sw [(i,j)]) hp⟩):SemOK P T res ex rv H' c ⟨sl,hp⟩:=
 ⟨fun c0 a w Q hr hq=>h.sem c0 a w Q (hr.swap hok) hq⟩
abbrev RM4:=St->(St->Prop)->(Nat->St->Prop)->(St->Prop)->Prop
noncomputable def zm1 (P:Program) (T:Tab) (sp:List Nat) (id:Nat) (ops:Array Oper) (draw:Bool):RM4:=fun σ n e r=>match zfi id sp with
 |true=>Tri P (.region id ops draw) σ (K3 n (fun _ _=>False) (fun _=>False))
 |false=>zst T (CN P) id ops draw true σ n e r
def qSeq (_ _:Code) (iha ihb:RM4):RM4:=fun σ n e r=>iha σ (fun σ=>ihb σ n e r) e r
def qbd (c:Operand) (_ _:Code) (iha ihb:RM4):RM4:=fun σ n e r=>match zj σ.sl c with
    | .bool t=> @Bool.rec (fun _=>Prop) (ihb σ n e r) (iha σ n e r) t
    | .ub p q=>(p->iha σ n e r)/\(q->ihb σ n e r)
    | _=>False
def qe4 (id:Nat) (_:Code) (ih:RM4):RM4:=fun σ n e r=>ih σ n (fun i σ=>match q5 i id with
 |true=>n σ
 |false=>e i σ) r
def qbc (T:Tab) (c:Code) (ih:RM4):RM4:=fun σ _ e r=> ∃(X:Type) (I:X->Prop) (us:X->List (Nat×AV)) (hu:X->List (Nat×Blk)) (μ:X->Nat) (x₀:X),
 I x₀/\(ze3 (ji c) fun ws=>ze3 (zc T c) fun ds=>zpj ws ds (us x₀) (hu x₀) σ (fun τ=>leS σ τ))/\
 ∀x,I x->ze3 (ji c) fun ws=>ze3 (zc T c) fun ds=>zpj ws ds (us x) (hu x) σ fun τ=>zcw (zfk τ.hp) τ.ids=true/\
  ih τ (fun σ'=> ∃x',I x'/\μ x'<μ x/\zpj ws ds (us x') (hu x') σ fun τ'=>leS σ' τ') e r
def qNo:RM4:=fun _ _ _ _=>False
noncomputable def zre (P:Program) (T:Tab) (sp:List Nat) (c:Code):RM4:=
 @Code.rec (fun _=>RM4) (fun σ n _ _=>n σ) (zm1 P T sp) qSeq qbd qe4 (qbc T) (fun _ _ _ _ _ _=>qNo) (fun id σ _ e _=>e id σ) (fun _ _=>qNo) (fun _=>qNo) (fun _=>qNo) (fun σ _ _ r=>r σ) (fun _=>qNo) c
theorem zu6 (hT:TabOK P T) (hmx:P.follows .mixedOrders =true) (sp:List Nat): ∀(c:Code) (σ:St) (n:St->Prop) (e:Nat->St->Prop) (r:St->Prop),zre P T sp c σ n e r->Tri P c σ (K3 n e r):=by
 have hw: ∀(c:Code) (σ:St) (n:St->Prop) (e:Nat->St->Prop) (r:St->Prop),zae T (CN P) c true σ n e r->Tri P c σ (K3 n e r):=fun c σ n e r h=>by
  rw[zch,zcg]at h;exact⟨fun c0 a w Q hr hq=>zx hT hmx c true ⟨Fence.wide,.inl rfl⟩ c0 _ _ _ a w (fun _=>rfl) hr h hq⟩
 intro c
 induction c with
 |skip=>intro σ n e r h;exact hw .skip σ n e r h
 |region id ops draw=>
  intro σ n e r h;have h:zm1 P T sp id ops draw σ n e r:=h;unfold zm1 at h;split at h
  ·exact zoa h fun ex τ hk=>by
    cases ex with
    |normal=>exact hk
    | _=>exact hk.elim
  ·exact hw (.region id ops draw) σ n e r h
 |seq a b iha ihb=>
  intro σ n e r h;exact qak (iha σ (fun σ=>zre P T sp b σ n e r) e r h) fun τ hτ=>ihb τ n e r hτ
 |cond c a b iha ihb=>
  intro σ n e r h;have h:qbd c a b (zre P T sp a) (zre P T sp b) σ n e r:=h;unfold qbd at h;refine⟨fun c0 ac w Q hr hq=>?_⟩;obtain⟨_,_,_,_,_,_,hrs⟩:=hr.own;have hb:=za hrs c;split at h
  ·rename_i t htt;rw[htt]at hb;simp only[R]at hb;refine wpIn_cond hb ?_
   cases t with
   |true=>exact(iha σ n e r h).run c0 ac w Q hr hq
   |false=>exact(ihb σ n e r h).run c0 ac w Q hr hq
  ·rename_i p q htt;rw[htt]at hb;simp only[R]at hb;obtain⟨t,hb,h1,h2⟩:=hb;refine wpIn_cond hb ?_
   cases t with
   |true=>exact(iha σ n e r (h.1 (h1 rfl))).run c0 ac w Q hr hq
   |false=>exact(ihb σ n e r (h.2 (h2 rfl))).run c0 ac w Q hr hq
  ·exact h.elim
 |block id c ih=>
  intro σ n e r h;exact zr0 (ih σ n _ r h)
 |loop c ih=>
  intro σ n e r h;have h:qbc T c (zre P T sp c) σ n e r:=h;unfold qbc at h;obtain⟨X,I,us,hu,μ,x₀,h0,hin,zim⟩:=h;simp only[zj7]at hin zim;rw[zcd]at hin;have hr0:=fun x hx=>(zcd _ _ _ _ _ _).1 (zim x hx)
  refine zwg (fun y=>gen (ji c) (zc T c) (us y) (hu y) σ) I μ x₀ h0 hin (fun x hx=>(hr0 x hx).1) fun y hy=>?_
  refine zoa (ih _ _ e r (hr0 y hy).2) fun ex τ hk=>?_
  cases ex with
  |normal=>
   obtain⟨y',hy',hlt,hle⟩:=hk;rw[zcd]at hle;exact⟨y',hy',hlt,hle⟩
  |exit i=>exact hk
  |ret=>exact hk
  | _=>exact hk.elim
 |exit id=>intro σ n e r h;exact hw (.exit id) σ n e r h
 |ret=>intro σ n e r h;exact hw .ret σ n e r h
 |rangeFunc f ps a b _ _=>intro σ n e r h;exact h.elim
 |scope b _=>intro σ n e r h;exact h.elim
 |label l=>intro σ n e r h;exact h.elim
 |goto l=>intro σ n e r h;exact h.elim
 |refuse w=>intro σ n e r h;exact h.elim
theorem zwv (hT:TabOK P T) (hmx:P.follows .mixedOrders =true) (sp:List Nat) {res:List ResultVar} {ex:List Nat} {r:AV} {H':Hp} {c:Code} {sl:List AV} {hp:Hp}
 (h:zj9 sl fun sl=>zrs hp fun hp=>zre P T sp c ⟨sl,hp⟩ (fun σ=>zhy T res ex r H' σ) (fun _ _=>False) (fun σ=>zhy T res ex r H' σ)):SemOK P T res ex r H' c ⟨sl,hp⟩:=by
 rw[vl,kd]at h;have:=zu6 hT hmx sp c _ _ _ _ h;rw[zzn]at this;exact⟨fun c0 a w Q hr hq=>this.run c0 a w Q hr hq⟩
end
section
variable {P:Program} {T:Tab}
end
theorem zcn.bool {V:ua} {u:Bool} {v:Value} (h:zcn V .bool u v):v= .bool u:=by
 obtain⟨vs,h1,h2,h3⟩:=h
 match vs,h1 with
 | [y],_=>
   have:=h3 0 (.bool u) y rfl rfl;cases this
   exact h2
section
variable {P:Program}
end
section
variable {P:Program} {T:Tab}
end
theorem zu4 {M:Nat->Prop} {pt:Nat->Option Nat} {ow:Nat->Option Value} {S:Nat->Prop} {H:Hp} {w:World} (hg:zk9 (zrh H)=true) (h:Core M pt ow S H w):Core M pt ow (fun _=>False) H w:= {
 fresh:=h.fresh,mt:=h.mt,inj:=h.inj,gm:=fun b hb=>hb.elim,gd:=fun i b _ hb=>hb,dpt:=h.dpt,dow:=h.dow
 blk:=fun i=>by
  have h1:=h.blk i;have h2:=zk8 hg i
  revert h1 h2
  generalize hget H i=b;intro h1 h2
  cases b with
  |gst J=>exact absurd rfl (h2 J)
  |free=>trivial
  |dead=>trivial
  |cells l=>exact h1
  |buf e k xs=>exact h1
  |map kk vk m=>exact h1}
theorem zra {P:Program} {f:Nat} {H H':Hp} {A:List AV} {r:AV} (hg:zk9 (zrh H)=true) (h:FnRB P f [] H A r H'):zkj P f H A r H':=by
 refine⟨h.1,fun w M pt ow S vs hcore hcont hargs=>(h.2 w M pt ow vs (zu4 hg hcore) hcont hargs).mono ?_⟩;rintro e w' ⟨v,M',pt',ow',he,hc,hk,hr,hL⟩;exact⟨v,M',pt',ow',fun _=>False,he,hc,hk,hr,hL.os,hL.tape,hL.output,hL.size,fun b hb hn _=>hL.same b hb hn,hL.mm,hL.mn,fun b hb=>hb.elim,
  fun i b hb=> .inl (hL.lept i b hb),fun i x hx=>(hL.leow i x hx).elim .inl fun h=>by cases h.1⟩
end Go.Sx
