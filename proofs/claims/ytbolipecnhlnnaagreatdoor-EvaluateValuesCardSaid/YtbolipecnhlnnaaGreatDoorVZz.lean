/- A walk in parts: the body is cut behind some of its statements; each part is carried out by itself, from a state that says no more than the rest wants. -/
import Derived.Test.YtbolipecnhlnnaaGreatDoorVSxY
set_option linter.all false
open Bool renaming and_eq_true->q4,false_eq_true->q7,or_eq_true->qE
open List renaming getElem?_eq_some_iff->q1,getElem?_eq_getElem->q5,mem_cons->q6,cons_append->q8,mem_append->q9,mem_singleton->qn,getElem?_map->qB,getElem_mem->qC,nil_append->qD
open Nat renaming le_of_ble_eq_true->q0,beq->q2,ble->q3,le_refl->qd,le_trans->qA
open Go.Fence renaming wide->qF
open Go.World renaming putObj->qG,putObj_heap_same->qH,alloc_heap_new->qI
namespace Go.Sx
open Go
def Fin(T:Tab)(res:List ResultVar)(ex:List Nat)(r:AV)(H':Hp):Exit->St->Prop:=fun e σ=>match e with
 |.normal =>zjk T res ex r H' σ
 |.ret =>zjk T res ex r H' σ
 | _=>False
structure SemOK(P:Program)(T:Tab)(res:List ResultVar)(ex:List Nat)(r:AV)(H':Hp)(c:Code)(σ:St):Prop where
 sem:∀(c0:Ctx)(a:Act)(w:World)(Q:Exit->Act->World->Prop),Rel c0 σ a w->(∀e σ a w,Rel c0 σ a w->Fin T res ex r H' e σ->Q e a w)->c.wpIn qF 0 P Q a w
def fnC(T:Tab)(ex:List Nat)(c:Code)(n:Nat)(H:Hp)(A:List AV)(H':Hp)(W:St->Prop):Prop:=
 zkm (A++zhn (n-A.length)) fun sl=>zti (zes (qz (ze T c)) H) fun hp=>
  match zd5 (ze T c) (vj A++zde H),zd5 (ze T c) (keys H),far 0 (keys H),far ex.length (keys H'),yg (zto H),ze8 (keys H'),qh4 ex&&ze8 ex with
  |true,true,true,true,true,true,true=>W ⟨sl,hp⟩
  | _,_,_,_,_,_,_=>False
abbrev RM3:=Bool->St->(St->Prop)->(Nat->St->Prop)->(St->Prop)->Prop
def K3(n:St->Prop)(e:Nat->St->Prop)(r:St->Prop):Exit->St->Prop:=fun x σ=>match x with
 |.normal =>n σ
 |.exit i=>e i σ
 |.ret =>r σ
 | _=>False
def sSkip:RM3:=fun _ σ n _ _=>n σ
noncomputable def zu0(T:Tab)(C:Con)(_:Nat)(ops:Array Oper)(draw:Bool):RM3:=fun _ σ n _ _=> @Bool.rec (fun _=>Prop)
 (qh0 T C ops.toList ops.toList σ fun σ=>zam (zy4 ops.toList) σ n)
 (opsS T C ops.toList ops.toList σ fun fps σ=>qa4 0 ops.toList fps=true/\Region.lexB .any ops=true/\zam (zy4 ops.toList) σ n) draw
def sSeq(_ _:Code)(iha ihb:RM3):RM3:=fun top σ n e r=>iha top σ (fun σ=>ihb top σ n e r) e r
def qe2(c:Operand)(_ _:Code)(iha ihb:RM3):RM3:=fun top σ n e r=>match zo σ.sl c with
    |.bool t=> @Bool.rec (fun _=>Prop) (ihb top σ n e r) (iha top σ n e r) t
    |.ub p q=>(p->iha top σ n e r)/\(q->ihb top σ n e r)
    | _=>False
def qja(id:Nat)(_:Code)(ih:RM3):RM3:=fun top σ n e r=>ih top σ n (fun i σ=>match q2 i id with
 |true=>n σ
 |false=>e i σ) r
def qe1(T:Tab)(c:Code)(ih:RM3):RM3:=fun top σ _ e r=>∃(X:Type)(I:X->Prop)(us:X->List (Nat×AV))(hu:X->List (Nat×Blk))(μ:X->Nat)(x₀:X),
 I x₀/\(zgi (jz c) fun ws=>zgi (ze T c) fun ds=>zrt ws ds (us x₀) (hu x₀) σ (fun G=>leS σ G))/\
 ∀x,I x->zgi (jz c) fun ws=>zgi (ze T c) fun ds=>zrt ws ds (us x) (hu x) σ fun G=>zd5 (zg2 G.hp) G.ids=true/\
  ih top G (fun σ'=>∃x',I x'/\μ x'<μ x/\zrt ws ds (us x') (hu x') σ fun τ'=>leS σ' τ') e r
def zu1(T:Tab)(C:Con)(f:Operand)(ps:Array Tmp)(asg body:Code)(iha ihb:RM3):RM3:=fun top σ n e r=>match top,zo σ.sl f with
    |true,.fn g caps=>∃(is:List Nat)(X Y:Type)(hb:X->List Blk)(live:X->Bool)(pend:X->Code)(args:Y->List AV)(next:X->Y->X)(x₀ xE:X)(rv:AV)(ib:List Blk),
      qi σ.hp is=hb x₀/\live x₀=true/\rfOk T σ.hp g is caps ib=true/\zd5 (ze T asg++ze T body) (zgd is)=true/\(∀x,zbi (hb x)=true/\zcf is (hb x)=true)/\(∀y,zyy (vj (args y))=true)/\
      (∀(l:Nat)(J:X->GJ),(∀x y,live x=true->C.cb l [(vu,.gst (J x))] (args y) (.bool (live (next x y))) [(vu,.gst (J (next x y)))])->
        C.fn g ((vu,.gst (J x₀))::wk (nub (vj caps)) (qi σ.hp (nub (vj caps)))) (.cb l::caps) rv ((vu,.gst (J xE))::wk (nub (vj caps)) ib))/\
      (∀x y,live x=true->zgu ps.toList (args y) (zgw is σ.sl) fun sl=>
        iha false ⟨sl,zes (qz (ze T asg++ze T body)) (wk (zgd is) (hb x))⟩ (fun G=>
         ihb false G (fun G=>live (next x y)=true/\zpq is (hb (next x y)) G) (fun id G=>live (next x y)=false/\pend (next x y)=.exit id/\zpq is (hb (next x y)) G)
          (fun G=>live (next x y)=false/\pend (next x y)=.ret /\zpq is (hb (next x y)) G)) (fun _ _=>False) (fun _=>False))/\
      (match σ with
        |⟨sl,hp⟩=>zbd hp is (hb xE) fun hp=>zbd hp (nub (vj caps)) ib fun hp=> @Bool.rec (fun _=>Prop)
          (match pend xE with
            |.exit id=>e id ⟨sl,hp⟩
            |.ret =>r ⟨sl,hp⟩
            | _=>False)
          (n ⟨sl,hp⟩) (live xE))
    | _,_=>False
def sExit(id:Nat):RM3:=fun _ σ _ e _=>e id σ
def sRet:RM3:=fun _ σ _ _ r=>r σ
def sNo:RM3:=fun _ _ _ _ _=>False
noncomputable def za3(T:Tab)(C:Con)(c:Code):RM3:=
 @Code.rec (fun _=>RM3) sSkip (zu0 T C) sSeq qe2 qja (qe1 T) (zu1 T C) sExit (fun _ _=>sNo) (fun _=>sNo) (fun _=>sNo) sRet (fun _=>sNo) c
theorem zdl(T:Tab)(C:Con):∀(c:Code)(top:Bool)(σ:St)(n:St->Prop)(e:Nat->St->Prop)(r:St->Prop),za3 T C c top σ n e r=zbr T C c top σ (K3 n e r):=by
 intro c
 induction c with
 |skip=>intro top σ n e r;rfl
 |region id ops draw=>intro top σ n e r;cases draw<;>rfl
 |seq a b iha ihb=>
  intro top σ n e r;show za3 T C a top σ (fun σ=>za3 T C b top σ n e r) e r=zbr T C a top σ (fun x σ=>match x with
   |.normal =>zbr T C b top σ (K3 n e r)
   |.exit i=>K3 n e r (.exit i) σ
   |.ret =>K3 n e r .ret σ
   | _=>False)
  have hk:K3 (fun σ=>za3 T C b top σ n e r) e r=fun x σ=>match x with
   |.normal =>zbr T C b top σ (K3 n e r)
   |.exit i=>K3 n e r (.exit i) σ
   |.ret =>K3 n e r .ret σ
   | _=>False:=by
   funext x σ
   cases x<;>first|rfl|exact ihb _ _ _ _ _
  rw[iha,hk]
 |cond c a b iha ihb=>
  intro top σ n e r;show qe2 c a b (za3 T C a) (za3 T C b) top σ n e r=zvh c a b (zbr T C a) (zbr T C b) top σ (K3 n e r);simp only[qe2,zvh,iha,ihb];rfl
 |block id c ih=>
  intro top σ n e r;show za3 T C c top σ n (fun i σ=>match q2 i id with|true=>n σ|false=>e i σ) r=zbr T C c top σ (fun x σ=>match x with
   |.normal =>K3 n e r .normal σ
   |.exit i=>match q2 i id with
     |true=>K3 n e r .normal σ
     |false=>K3 n e r (.exit i) σ
   |.ret =>K3 n e r .ret σ
   | _=>False)
  have hk:K3 n (fun i σ=>match q2 i id with|true=>n σ|false=>e i σ) r=fun x σ=>match x with
   |.normal =>K3 n e r .normal σ
   |.exit i=>match q2 i id with
     |true=>K3 n e r .normal σ
     |false=>K3 n e r (.exit i) σ
   |.ret =>K3 n e r .ret σ
   | _=>False:=by funext x σ;cases x<;>rfl
  rw[ih,hk]
 |loop c ih=>
  intro top σ n e r;show qe1 T c (za3 T C c) top σ n e r=zvf T c (zbr T C c) top σ (K3 n e r);simp only[qe1,zvf,ih,zl6];have hk:∀(A:St->Prop),K3 A e r=fun x σ=>match x with
   |.normal =>A σ
   |.exit i=>(match Exit.exit i with|.normal =>n σ|.exit i=>e i σ|.ret =>r σ| _=>False)
   |.ret =>(match Exit.ret with|.normal =>n σ|.exit i=>e i σ|.ret =>r σ| _=>False)
   | _=>False:=fun A=>by funext x σ;cases x<;>rfl
  simp only[hk];rfl
 |rangeFunc f ps a b iha ihb=>
  intro top σ n e r;show zu1 T C f ps a b (za3 T C a) (za3 T C b) top σ n e r=zm0 T C f ps a b (zbr T C a) (zbr T C b) top σ (K3 n e r);simp only[zu1,zm0,iha,ihb];have hk:∀(A B:St->Prop)(E:Nat->St->Prop),K3 A E B=fun x σ=>match x with
   |.normal =>A σ
   |.exit i=>E i σ
   |.ret =>B σ
   | _=>False:=fun A B E=>by funext x σ;cases x<;>rfl
  have hk2:∀(A:St->Prop),K3 A (fun _ _=>False) (fun _=>False)=fun x σ=>match x with
   |.normal =>A σ
   | _=>False:=fun A=>by funext x σ;cases x<;>rfl
  cases top with
  |false=>rfl
  |true=>simp only[hk2];simp only[hk];rfl
 |exit id=>intro top σ n e r;rfl
 |scope b ih=>intro top σ n e r;rfl
 |label l=>intro top σ n e r;rfl
 |goto l=>intro top σ n e r;rfl
 |ret=>intro top σ n e r;rfl
 |refuse w=>intro top σ n e r;rfl
def zps:Nat->Code->Code
 |0,c=>c
 |n+1,.seq _ y=>zps n y
 | _+1,c=>c
def zub:Nat->Code->Code
 |0,_=>.skip
 |n+1,.seq x y=>.seq x (zub n y)
 | _+1,_=>.refuse ""
def fcS:Code->(Code->Prop)->Prop
 |.seq a b,k=>fcS b fun b=>k (.seq a b)
 |c,k=>k c
theorem qgd:∀(c:Code)(k:Code->Prop),fcS c k<->k c:=by
 intro c
 induction c with
 |seq a b _ ihb=>intro k;show fcS b _<->_;rw[ihb]
 | _=>intro k;exact Iff.rfl
section
variable {P:Program} {T:Tab}
theorem zob(hT:TabOK P T)(hmx:P.follows .mixedOrders =true){c:Ctx}{K:Exit->St->Prop}{Q:Exit->Act->World->Prop}:∀(n:Nat)(code:Code)(σ:St)(a:Act)(w:World),
 Rel c σ a w->je T (CN P) true (zub n code) σ K->(∀σ a w,Rel c σ a w->K .normal σ->(zps n code).wpIn qF 0 P Q a w)->(∀e σ a w,Rel c σ a w->e≠ .normal ->K e σ->Q e a w)->code.wpIn qF 0 P Q a w
 |0,code,σ,a,w,hr,h,hn,_=>hn σ a w hr (by simpa only[zub,je]using h)
 |n+1,code,σ,a,w,hr,h,hn,hq=>by
  cases code with
  |seq x y=>
   simp only[zub,je]at h;refine wpIn_seq (qj hT hmx x true ⟨qF,.inl rfl⟩ c σ _ _ a w (fun _=>rfl) hr h fun e σ' a' w' hr' hk'=>?_)
   cases e with
   |normal=>exact zob hT hmx n y σ' a' w' hr' hk' hn hq
   |exit i=>exact hq _ _ _ _ hr' OC hk'
   |ret=>exact hq _ _ _ _ hr' OC hk'
   | _=>exact hk'.elim
  | _=>exact h.elim
theorem qc7(T:Tab)(res:List ResultVar)(ex:List Nat)(r:AV)(H':Hp):K3 (fun σ=>zjk T res ex r H' σ) (fun _ _=>False) (fun σ=>zjk T res ex r H' σ)=Fin T res ex r H':=by
 funext x σ;cases x<;>rfl
theorem xn(hT:TabOK P T)(hmx:P.follows .mixedOrders =true){res:List ResultVar}{ex:List Nat}{r:AV}{H':Hp}{c:Code}{sl:List AV}{hp:Hp}
 (h:zkm sl fun sl=>zti hp fun hp=>za3 T (CN P) c true ⟨sl,hp⟩ (fun σ=>zjk T res ex r H' σ) (fun _ _=>False) (fun σ=>zjk T res ex r H' σ)):SemOK P T res ex r H' c ⟨sl,hp⟩:=by
 rw[wc,kr,zdl,zdk,qc7]at h;refine⟨fun c0 a w Q hr hq=>?_⟩;exact qj hT hmx c true ⟨qF,.inl rfl⟩ c0 _ _ _ a w (fun _=>rfl) hr h hq
theorem ym(hT:TabOK P T)(hmx:P.follows .mixedOrders =true){res:List ResultVar}{ex:List Nat}{r:AV}{H':Hp}{c:Code}{sl:List AV}{hp:Hp}(n:Nat){X:Type}(σm:X->St)
 (hfr:∀x,zd5 (zg2 (σm x).hp) (σm x).ids =true)
 (h1:zkm sl fun sl=>zti hp fun hp=>fcS (zub n c) fun pc=>za3 T (CN P) pc true ⟨sl,hp⟩ (fun σ=>∃x,leS σ (σm x)) (fun _ _=>False) (fun σ=>zjk T res ex r H' σ))
 (h2:∀x,SemOK P T res ex r H' (zps n c) (σm x)):SemOK P T res ex r H' c ⟨sl,hp⟩:=by
 rw[wc,kr,qgd,zdl,zdk]at h1;refine⟨fun c0 a w Q hr hq=>?_⟩;refine zob hT hmx n c _ a w hr h1 (fun σ a w hr hk=>?_) (fun e σ a w hr hne hk=>?_)
 .obtain⟨x,hx⟩:=hk;exact(h2 x).sem c0 a w Q (hr.weaken hx (hfr x)) hq
 .cases e with
  |normal=>exact absurd rfl hne
  |ret=>exact hq _ _ _ _ hr hk
  | _=>exact hk.elim
variable {c:Ctx} {σ:St} {a:Act} {w:World}
open Classical in
set_option maxHeartbeats 1000000 in
theorem jk(hT:TabOK P T)(hmx:P.follows .mixedOrders =true){f:Nat}{fn:Func}{code:Code}(hf:P.funcs[f]? =some fn)(hb:fn.body=some code)(hname:(fn.name== "runtime.NumGoroutine")=false)
 {ex:List Nat} {H H':Hp} {A:List AV} {r:AV} (h:fnC T ex code fn.ntmps H A H' (SemOK P T fn.results.toList ex r H' code)):zmk P f H A r H':=by
 unfold fnC at h;rw[wc,kr]at h;split at h
 case h_2=>exact h.elim
 rename_i hd1 hd2 hfar hfar' hnf hnod hex;have hk:=h;rw[jd]at hd1 hd2;rw[q4]at hex;have hexlo:=zlx hex.1;have hexnd:=za9 hex.2;have hnod:=za9 hnod;rw[zpx]at hnf;refine⟨⟨fn,hf,by rw[hb];rfl,hname⟩,fun w M pt ow S vs hcore hcont hargs=>?_⟩
 let c0:Ctx:= {M0:=M,w0:=w,mine:=fun b=>(∃i,bl pt ow i=some b)\/S b,sm:=S,pt0:=pt,ow0:=ow}
 have hkout:∀i,kv H i->i∉ze T code:=fun i hi hj=>hd2 i hj (zeg.2 hi)
 have hout:∀i x,hget H i=x->x≠ .dead ->hget (zes (qz (ze T code)) H) i=x:=fun i x hx hn=>by
  rw[qb (hkout i (zt (by rw[hx];exact hn)))];exact hx
 have hback:∀i x,hget (zes (qz (ze T code)) H) i=x->x≠ .free ->hget H i=x:=fun i x hx hn=>by
  by_cases hi:i∈ze T code
  .rw[kp hi]at hx;exact absurd hx.symm hn
  .rw[qb hi]at hx;exact hx
 have hlen:=hargs.length;have hkpt:∀i,(hget H i).isPt =true->kv H i:=fun i hi=>zt fun e=>by rw[e]at hi;cases hi
 have hkow:∀i,(hget H i).isBuf =true->kv H i:=fun i hi=>zt fun e=>by rw[e]at hi;cases hi
 have hg0:Good c0 M pt ow S (zes (qz (ze T code)) H) w:= {
  os:=rfl,tape:=rfl,output:=rfl,size:=qd _,keep:=fun _ _ _=>rfl,fresh:=hcore.fresh,m0:=fun _ h=>h,m1:=hcore.fresh,mt:=hcore.mt
  gm:=hcore.gm,gd:=hcore.gd,gl:=fun b hb=>.inr ⟨.inr hb,hb⟩
  loc:=fun i b hb=>.inr ⟨.inl ⟨i,hb⟩,by
   have hk:kv H i:=by
    unfold bl at hb
    cases hq:pt i with
    |some z=>exact hkpt i (hcore.dpt i z hq)
    |none=>
     rw[hq]at hb
     cases hq2:ow i with
     |none=>rw[hq2]at hb;cases hb
     |some z=>exact hkow i (hcore.dow i z hq2)
   exact(zmc hfar i (zeg.2 hk)).1⟩
  farp:=fun _ _ _ h=>h,farw:=fun _ _ _ h=>.inl h
  inj:=hcore.inj
  dpt:=fun i b hb=>by rw[qb (hkout i (hkpt i (hcore.dpt i b hb)))];exact hcore.dpt i b hb
  dow:=fun i b hb=>by rw[qb (hkout i (hkow i (hcore.dow i b hb)))];exact hcore.dow i b hb
  blk:=fun i=>by
   by_cases hi:i∈ze T code
   .rw[kp hi];trivial
   .rw[qb hi];exact hcore.blk i}
 have hfree:∀i,i∈vj A++zde H->(hget (zes (qz (ze T code)) H) i).isFree =false:=fun i hi=>by
  rw[qb fun hj=>hd1 i hj hi];exact zec hnf
 have hrel:Rel c0 ⟨A++zhn (fn.ntmps-A.length),zes (qz (ze T code)) H⟩ {tmps:=vs.toArray++Array.replicate (fn.ntmps-vs.toArray.size) undef,defers:= []} w:=by
  refine⟨M,pt,ow,S,hg0,fun pt' ow' hag=>?_,.nil⟩;have hle:∀is:List Nat,(∀i∈is,i∈vj A++zde H)->Env.le ⟨zu w M,pt,ow⟩ ⟨zu w M,pt',ow'⟩ is:=fun is his=>⟨fun _ _ h=>h,fun i hi=>by
   have:=hag i (hfree i (his i hi));exact⟨fun b hb=>by change pt' i=some b at hb;rw[this.1]at hb;exact hb,fun b hb=>by change ow' i=some b at hb;rw[this.2]at hb;exact hb⟩⟩
  refine⟨?_,fun i l b cs Ty hl hb hcs=>?_⟩
  .have h1:=hargs.imp A _ (hle _ fun i hi=>by simp[hi]);have h2:=zpy (ρ:=⟨zu w M,pt',ow'⟩) (fn.ntmps-A.length);have:=h1.append h2;rw[hlen]at this⊢;simpa using this
  .have hl':=hback i _ hl OC;exact(hcont i l b cs Ty hl' hb hcs).imp _ _ (hle _ fun j hj=>by simp only[q9];exact .inr (jg hl' j hj))
 have hfin:∀(σ:St)(a:Act)(w':World),Rel c0 σ a w'->zjk T fn.results.toList ex r H' σ->LeavesInM qF 0 P fn a.tmps (Ans w M pt ow S r H') a.defers .returning w':=by
  intro σ a w' hr hK;obtain⟨_,_,_,_,_,_,Ds,hDs,_⟩:=id hr;obtain⟨tm,ds⟩:=a;simp only at hDs;subst hDs;refine zcg tm (fun w' hr=>?_) Ds w' hr;unfold zjk at hK;obtain⟨l1,hK,_⟩:=za6 hT hr _ _ hK;obtain⟨σ',hr',hK⟩:=zad hr hK;obtain⟨l,⟨hleA,hleH⟩,vs',hrun,hrs⟩:=za6 hT hr' _ _ hK;obtain⟨M1,pt1,ow1,S1,hg,hs,_⟩:=hr';obtain⟨v,hv,hRv⟩:=zh1 hrun (hrs M1 pt1 ow1 S1 hg hs);refine⟨v,hv,?_⟩;obtain⟨ptN,owN,hgN,hless,hcel⟩:=hg.weaken (zhd hleH);have hexI:∀i,i∈keys H'->(i<2000000/\(1000000<=i/\(i<1500000\/1999999<=i))/\exI ex i=i)\/(2000000<=i/\∃h:i-2000000<ex.length,exI ex i=ex[i-2000000]):=fun i hi=>by
   obtain⟨h1,h2,h2'⟩:=zmc hfar' i hi;rcases Nat.lt_or_ge i 2000000 with h3|h3
   .exact .inl ⟨h3,⟨h1,h2'⟩,qc9 h3⟩
   .exact .inr ⟨h3,O,qk3 h3 h2⟩
  have hexin:∀i,i∈keys H'->2000000<=i->exI ex i∈ex/\exI ex i<=999998:=fun i hi h2=>by
   rcases hexI i hi with h|⟨_,h3,h4⟩
   .omega
   .rw[h4];exact⟨qC _,hexlo _ (qC _)⟩
  have hinj:∀i,i∈keys H'->∀j∈keys H',exI ex j=exI ex i->j=i:=fun i hi j hj e=>by
   rcases hexI i hi with ⟨h1,h2,h3⟩|⟨h1,h2,h3⟩<;>rcases hexI j hj with ⟨h4,h5,h6⟩|⟨h4,h5,h6⟩
   .rw[h3,h6]at e;exact e
   .have:=(hexin j hj h4).2;rw[h3]at e;omega
   .have:=(hexin i hi h1).2;rw[h6]at e;omega
   .rw[h3,h6]at e;have:=(List.getElem_inj hexnd).1 e;omega
  have hgetm:∀i,i∈keys H'->hget (zha (exI ex) H') (exI ex i)=(hget H' i).mapI (exI ex):=fun i hi=>zik _ hi (hinj i hi)
  have hkeyH':∀i,hget H' i≠ .dead ->i∈keys H':=fun i hi=>zeg.2 (zt hi)
  have hfarp:∀i b,(1000000<=i/\(i<1500000\/1999999<=i))->ptN i=some b->pt i=some b:=fun i b hi=>hgN.farp i b hi.1
  have hfarw:∀i b,(1000000<=i/\(i<1500000\/1999999<=i))->owN i=some b->ow i=some b:=fun i b hi hb=>by
   rcases hgN.farw i b hi.1 hb with h1|h1
   .exact h1
   .omega
  have hblf:∀i b,(1000000<=i/\(i<1500000\/1999999<=i))->bl ptN owN i=some b->bl pt ow i=some b:=fun i b hi hb=>by
   unfold bl at hb⊢
   cases hq:ptN i with
   |some z=>rw[hq]at hb;rw[hfarp i z hi hq];exact hb
   |none=>
    rw[hq]at hb
    cases hq2:owN i with
    |none=>rw[hq2]at hb;cases hb
    |some z=>
     rw[hq2]at hb;have h1:=hfarw i z hi hq2;rw[hcore.ptow h1,h1];exact hb
  have hbln:∀i b,i<=999998->bl ptN owN i=some b->w.heap.size<=b:=fun i b hi hb=>by
   rcases hgN.loc i b hb with h1|h1
   .exact h1
   .have:=h1.2;omega
  let ptF:Nat->Option Nat:=fun i=>if i∈keys H' then ptN (exI ex i)else none
  let owF:Nat->Option Value:=fun i=>if i∈keys H' then owN (exI ex i)else none
  let MF:Nat->Prop:=fun b=>M b\/S1 b\/∃i,i∈ex/\bl ptN owN i=some b
  have hF:∀i,i∈keys H'->ptF i=ptN (exI ex i)/\owF i=owN (exI ex i):=fun i hi=>by simp only[ptF,owF,Z4 hi];exact⟨trivial,trivial⟩
  have hFp:∀i b,ptF i=some b->i∈keys H'/\ptN (exI ex i)=some b:=fun i b hb=>by
   by_cases hi:i∈keys H'
   .exact⟨hi,by rw[(hF i hi).1]at hb;exact hb⟩
   .simp only[ptF,Z5 hi]at hb;cases hb
  have hFw:∀i b,owF i=some b->i∈keys H'/\owN (exI ex i)=some b:=fun i b hb=>by
   by_cases hi:i∈keys H'
   .exact⟨hi,by rw[(hF i hi).2]at hb;exact hb⟩
   .simp only[owF,Z5 hi]at hb;cases hb
  have hFb:∀i b,bl ptF owF i=some b->i∈keys H'/\bl ptN owN (exI ex i)=some b:=fun i b hb=>by
   by_cases hi:i∈keys H'
   .exact⟨hi,by simpa only[bl,(hF i hi).1,(hF i hi).2]using hb⟩
   .simp only[bl,ptF,owF,Z5 hi]at hb;cases hb
  have hMF1:∀b,MF b->M1 b:=fun b hb=>by
   rcases hb with h1|h1|⟨i,_,h1⟩
   .exact hgN.m0 b h1
   .exact hgN.gm b h1
   .exact hgN.mt i b h1
  have hV:∀b o,zu w' M1 b o->zu w' MF b o:=qa fun b o hm hb=>⟨fun h'=>hm (hMF1 b h'),hb⟩
  have hR1:∀(x:AV)(y:Value),R ⟨zu w' M1,ptN,owN⟩ (x.mapI (exI ex)) y->R ⟨zu w' MF,ptF,owF⟩ x y:=fun x y hx=>by
   have h1:=(R.mapI (V:=zu w' M1) (f:=exI ex) (pt:=fun i=>ptN (exI ex i)) (ow:=fun i=>owN (exI ex i)) (pt':=ptN) (ow':=owN) x y fun i _=>⟨rfl,rfl⟩).1 hx;exact h1.imp x y ⟨hV,fun i _=>⟨fun b hb=>(hFp i b hb).2,fun b hb=>(hFw i b hb).2⟩⟩
  have hR2:∀(x:List AV)(y:List Value),Rs ⟨zu w' M1,ptN,owN⟩ (za2 (exI ex) x) y->Rs ⟨zu w' MF,ptF,owF⟩ x y:=fun x y hx=>by
   have h1:=(Rs.mapI (V:=zu w' M1) (f:=exI ex) (pt:=fun i=>ptN (exI ex i)) (ow:=fun i=>owN (exI ex i)) (pt':=ptN) (ow':=owN) x y fun i _=>⟨rfl,rfl⟩).1 hx;exact h1.imp x y ⟨hV,fun i _=>⟨fun b hb=>(hFp i b hb).2,fun b hb=>(hFw i b hb).2⟩⟩
  refine⟨v,MF,ptF,owF,S1,rfl,?_,?_,hR1 r v (R.le _ _ _ hleA (hless _) hRv),?_⟩
  .exact {
    fresh:=fun b hb=>hgN.fresh b (hMF1 b hb)
    mt:=fun i b hb=>by
     obtain⟨hi,hb'⟩:=hFb i b hb;rcases hexI i hi with ⟨h1,h2,h3⟩|⟨h1,_,_⟩
     .rw[h3]at hb';exact .inl (hcore.mt i b (hblf i b h2 hb'))
     .exact .inr (.inr ⟨_,(hexin i hi h1).1,hb'⟩)
    inj:=fun i j b hi hj=>by
     obtain⟨h1,h2⟩:=hFb i b hi;obtain⟨h3,h4⟩:=hFb j b hj;exact(hinj i h1 j h3 (hgN.inj _ _ b h4 h2)).symm
    gm:=fun b hb=>.inr (.inl hb)
    gd:=fun i b hb=>hgN.gd _ b (hFb i b hb).2
    dpt:=fun i b hb=>by
     obtain⟨hi,hb'⟩:=hFp i b hb;have:=hgN.dpt _ b hb';rw[hgetm i hi,zba]at this;exact this
    dow:=fun i b hb=>by
     obtain⟨hi,hb'⟩:=hFw i b hb;have:=hgN.dow _ b hb';rw[hgetm i hi,zah]at this;exact this
    blk:=fun i=>by
     by_cases hi:i∈keys H'
     .have h1:=hgN.blk (exI ex i);rw[hgetm i hi]at h1;have h2:=h1.unren (pt':=ptF) (ow':=owF) (i:=i) (exI ex) (hF i hi).1 (hF i hi).2 fun e=>by
       rcases hexI i hi with ⟨h3,h4,h5⟩|⟨h3,_,_⟩
       .rw[h5]at e;exact e
       .have:=(hexin i hi h3).2;rw[e]at this;simp only[vu]at this;omega
      refine h2.mono rfl rfl hV (fun x hx=>?_) (fun _ _ _ h=>h) (fun _ _ _ h=>h);obtain⟨_,hx'⟩:=hFw i x hx;rw[(hF i hi).1];exact hgN.ptow hx'
     .have:hget H' i=.dead :=by
       cases e:hget H' i<;>first|rfl|exact absurd (hkeyH' i (by rw[e];simp)) hi
      rw[this];trivial}
  .intro i m b cs Ty hm hb' hcs;obtain⟨hi,hb''⟩:=hFp i b hb';have h1:=hgetm i hi;rw[hm]at h1;simp only[Blk.mapI]at h1;obtain⟨l0,h2,h3,h4⟩:=hcel _ _ h1;rw[h4]at hb'';exact hR2 m _ (Rs.le _ _ _ h3 (hless _) ((hs pt1 ow1 (Agr.refl _ _ _)).2 _ l0 b cs Ty h2 hb'' hcs))
  .exact {
    os:=hgN.os,tape:=hgN.tape,output:=hgN.output,size:=hgN.size
    same:=fun b hb hn hS=>hgN.keep b hb fun h=>h.elim (fun⟨i,hi⟩=>hn i hi) hS
    mm:=fun b hb=>.inl hb
    mn:=fun b hb=>by
     rcases hb with h1|h1|⟨i,hi,h1⟩
     .exact .inl h1
     .rcases hgN.gl b h1 with h2|h2
      .exact .inr h2
      .exact .inl (hcore.gm b h2.2)
     .exact .inr (hbln i b (hexlo i hi) h1)
    sn:=fun b hb=>by
     rcases hgN.gl b hb with h2|h2
     .exact .inr h2
     .exact .inl h2.2
    lept:=fun i b hb=>by
     obtain⟨hi,hb'⟩:=hFp i b hb;rcases hexI i hi with ⟨h1,h2,h3⟩|⟨h1,_,_⟩
     .rw[h3]at hb';exact .inl (hfarp i b h2 hb')
     .exact .inr ⟨hbln _ b (hexin i hi h1).2 (by simp[bl,hb']),h1⟩
    leow:=fun i x hx=>by
     obtain⟨hi,hx'⟩:=hFw i x hx;rcases hexI i hi with ⟨h1,h2,h3⟩|⟨h1,_,_⟩
     .rw[h3]at hx';exact .inl (hfarw i x h2 hx')
     .refine .inr ⟨fun b hb=>.inl (hbln _ b (hexin i hi h1).2 ?_),h1⟩;unfold bl;rw[hgN.ptow hx',hx'];cases x<;>first|exact hb|(simp[vbl]at hb;done)|(rename_i ao _ _;cases ao<;>first|exact hb|(simp[vbl]at hb;done))}
 refine callsIn_wide.1 (callsIn_of_wp_marks (n:=0) hf hb trivial (hk.sem c0 _ _ _ hrel fun e σ a w' hr hK=>?_))
 cases e with
 |normal=>exact hfin σ a w' hr hK
 |ret=>exact hfin σ a w' hr hK
 | _=>exact hK.elim
end
theorem qa5{T:Tab}{ex:List Nat}{c:Code}{n:Nat}{H:Hp}{A:List AV}{H':Hp}{W W':St->Prop}(hw:∀sl hp,W ⟨sl,hp⟩->W' ⟨sl,hp⟩)(h:fnC T ex c n H A H' W):fnC T ex c n H A H' W':=by
 unfold fnC at h⊢;rw[wc,kr]at h⊢;generalize zd5 (ze T c) (vj A++zde H)=b1 at h⊢;generalize zd5 (ze T c) (keys H)=b2 at h⊢;generalize far 0 (keys H)=b3 at h⊢;generalize far ex.length (keys H')=b4 at h⊢;generalize yg (zto H)=b5 at h⊢;generalize ze8 (keys H')=b6 at h⊢;generalize (qh4 ex&&ze8 ex)=b7 at h⊢
 match b1,b2,b3,b4,b5,b6,b7,h with
 |true,true,true,true,true,true,true,h=>exact hw _ _ h
theorem fnT{P:Program}{T:Tab}(hT:TabOK P T)(hmx:P.follows .mixedOrders =true){f:Nat}{fn:Func}{code:Code}(hf:P.funcs[f]? =some fn)(hb:fn.body=some code)(hname:(fn.name== "runtime.NumGoroutine")=false)
 {ex:List Nat} {H H':Hp} {A:List AV} {r:AV} (h:fnC T ex code fn.ntmps H A H' fun σ=>za3 T (CN P) code true σ (fun σ=>zjk T fn.results.toList ex r H' σ) (fun _ _=>False) (fun σ=>zjk T fn.results.toList ex r H' σ)):zmk P f H A r H':=by
 refine jk hT hmx hf hb hname (ex:=ex) (qa5 (fun sl hp h=>?_) h);exact xn hT hmx (by rw[wc,kr];exact h)
theorem gZn{Q K:List Blk->AV->Prop}{r:AV}(h:Q [] r)(k:K [] r):∃b r,Q b r/\K b r:=⟨_,_,h,k⟩
theorem gYn{Q K:List Blk->AV->Prop}{r:AV}(h:Q [] r){X:Prop}(k:X)(e:K [] r=X:=by conv=>lhs;whnf):∃b r,Q b r/\K b r:=⟨_,_,h,e.mpr k⟩
theorem gYe{A B X:Prop}(k:X)(a:A:=by first|kernel_rfl)(e:B=X:=by conv=>lhs;whnf):A/\B:=⟨a,e.mpr k⟩
theorem gYd{A B C X:Prop}(k:X)(a:A:=by first|kernel_rfl)(b:B:=by first|kernel_rfl)(e:C=X:=by conv=>lhs;whnf):A/\B/\C:=⟨a,b,e.mpr k⟩
def zpw(bi z:Nat)(e:TypeId)(k:Elt)(xs:List k.T):Hp:= [(bi,.cells [.own z]),(z,.buf e k xs)]
structure EndO(bi z:Nat)(e:TypeId)(k:Elt)(xs:List k.T)(G:St):Prop where
 le:leH G.hp (zpw bi z e k xs) (zm3 G.hp (zpw bi z e k xs)) (zpw bi z e k xs)
structure GhostO(i0 b0:Nat)(pt:Nat->Option Nat)(e:TypeId)(k:Elt)(xs:List k.T)(sl:List AV)(tm:Array Value)(D l:Nat)(rc:Loop)(S:Nat->Prop)(V:uy)(w:World):Prop where
 sd:S D
 sl_:S l
 hd:w.heap[D]? =some (.deferred (some []))
 hl:w.heap[l]? =some (.loop rc)
 sb:S b0
 bx:∃cs Ty h,w.heap[b0]? =some (.cells cs Ty (0,0))/\cs.toList= [h]/\zbz w V e k xs h/\∀b,vbl h=some b->S b/\b≠b0/\b≠D/\b≠l
 rs:Rs ⟨V,ptB [i0] pt,fun _=>none⟩ (zgw [i0] sl) tm.toList
theorem GhostO.stab(i0 b0:Nat)(pt:Nat->Option Nat)(e:TypeId)(k:Elt)(xs:List k.T)(sl:List AV)(tm:Array Value)(D l:Nat)(rc:Loop):Stab (GhostO i0 b0 pt e k xs sl tm D l rc):=
 fun S V V' w w' hV hS h=>⟨h.sd,h.sl_,hS _ _ h.sd h.hd,hS _ _ h.sl_ h.hl,h.sb,by
  obtain⟨cs,Ty,hh,h1,h2,h3,h4⟩:=h.bx;exact⟨cs,Ty,hh,hS _ _ h.sb h1,h2,h3.cmono hV fun b cap cs' e1 e2=>hS b _ (h4 b (by rw[e1];rfl)).1 e2,h4⟩,h.rs.cmono hV⟩
theorem zbz.slice{w:World}{V:uy}{e:TypeId}{k:Elt}{xs:List k.T}{h:Value}(hb:zbz w V e k xs h):∃a n c,h=.slice a n c:=by
 rcases hb with ⟨h1,_⟩|⟨b,cap,cs,h1,_⟩
 .simp_all
 simp_all
theorem zqr:∀(ps:List Nat)(vs sl:List AV)(K:List AV->Prop),ps.length=vs.length->K (psG ps vs sl)->zgu ps vs sl K
 | [],[],sl,K,_,h=>h
 | [],_::_,_,_,h,_=>by simp at h
 | _::_,[],_,_,h,_=>by simp at h
 |p::ps,v::vs,sl,K,hl,h=>by
  simp only[zgu];rw[zf4,zcz];exact zqr ps vs _ K (by grind) h
theorem zl4(bi z:Nat)(e:TypeId)(k:Elt)(xs:List k.T)(j:Nat):hget (zpw bi z e k xs) j=if bi=j then .cells [.own z]else if z=j then .buf e k xs else .dead :=by
 unfold zpw;rw[zf,zf];rfl
section
variable {P:Program} {T:Tab} {F:Wf} {c:Ctx} {σ:St} {a:Act} {w:World}
set_option maxHeartbeats 1000000 in
theorem zu7{asg body:Code}(ihA:zcx P T asg)(ihB:zcx P T body){i0 bi b0 z ob:Nat}{pt:Nat->Option Nat}{e:TypeId}{k:Elt}{xs xs':List k.T}{sl:List AV}{tm:Array Value}{D l fn:Nat}{ps:Array Tmp}{X:List Nat}{A:List AV}
 (hbi:bi=zep i0) (hi0:i0<=399999) (hob:1400000<=ob) (hz:z≠bi) (hp0:pt i0=some b0) (hbD:b0<D) (hlD:l=D+1) (hX1:bi∉X) (hX2:ob∉X) (hA:zyy (vj A)=true) (rc:Loop)
 (hrc:rc= {state:=.ready,pending:=none,fn:=fn,tmps:=tm,params:=ps,assign:=asg,body:=body,defers:=D})
 (hk:zgu ps.toList A (zgw [i0] sl) fun sl=>je T (CN P) false asg ⟨sl,zes (qz X) (zpw bi ob e k xs)⟩ fun ex G=>match ex with
   |.normal =>je T (CN P) false body G fun ex G=>match ex with
     |.normal =>EndO bi z e k xs' G
     | _=>False
   | _=>False):
 qds P l [(vu,.gst (GhostO i0 b0 pt e k xs sl tm D l rc))] A (.bool true) [(vu,.gst (GhostO i0 b0 pt e k xs' sl tm D l rc))]:=by
 intro W M2 pt2 ow2 S2 vs hcore hconts hvs;have hpt2:∀i,pt2 i=none:=fun i=>hcore.ptn (by rw[yx];split<;>rfl)
 have how2:∀i,ow2 i=none:=fun i=>hcore.own (by rw[yx];split<;>rfl)
 have hb2:∀i b,bl pt2 ow2 i≠some b:=fun i b h=>by simp_all[bl]
 have hJ:=hcore.blk vu;rw[yx,Z4 rfl]at hJ;obtain⟨_,_,hJ⟩:=hJ;obtain⟨hlen,hk⟩:=zcy _ _ _ _ hk;have hA':=zlq hA;have hy:=run_yield (P:=P) (args:=vs.toArray) hJ.hl (by rw[hrc];simp;rw[<-hvs.length,<-hlen];simp);refine⟨rc.fn,_,rc.assign,rc.body,hy,roundIn_of_wpIn trivial ?_⟩;have hlM:M2 l:=hcore.gm l hJ.sl_;have hlW:l<W.heap.size:=zj hJ.hl;have hDW:D<W.heap.size:=zj hJ.hd;obtain⟨cs0,Ty0,h0,hx1,hx2,hx3,hx4⟩:=hJ.bx;have hne:bi≠ob:=by grind[zep]
 obtain⟨pb,hpb⟩:∃pb,pb=ptB [i0] pt:=⟨_,rfl⟩;have hrs:=hJ.rs;have hrs2:=hJ.rs;rw[<-hpb]at hrs;have hptb:∀j b,pb j=some b<->j=bi/\b=b0:=fun j b=>by
  rw[hpb,hbi];constructor
  .grind[zlg,qn,Option.some.inj]
  grind[zeb]
 let ow1:Nat->Option Value:=fun i=>if i=ob then some h0 else none
 let c1:Ctx:= {M0:=M2,w0:=W,mine:=fun b=>b=b0\/vbl h0=some b,sm:=fun _=>False,pt0:=pb,ow0:=ow1}
 have hmine:∀b,c1.mine b->b≠D/\b≠l/\S2 b:=fun b hb=>by
  rcases hb with rfl|hb
  .exact⟨O,O,hJ.sb⟩
  simp_all
 have how1:∀j x,ow1 j=some x->j=ob/\x=h0:=fun j x h=>by
  grind
 have hptO:pb ob=none:=by
  cases h:pb ob with
  |none=>rfl
  |some b=>grind
 have hblB:∀j b,bl (pb) ow1 j=some b->(j=bi/\b=b0)\/(j=ob/\vbl h0=some b):=fun j b h=>by
  unfold bl at h
  cases hq:pb j with
  |some z=>grind
  |none=>
   rw[hq]at h
   cases hq2:ow1 j with
   |none=>grind
   |some x=>
    obtain⟨h1,rfl⟩:=how1 j x hq2;rw[hq2]at h;refine .inr ⟨h1,?_⟩;obtain⟨ao,n,cp,rfl⟩:=hx3.slice;cases ao<;>exact h
 have hnX:∀j,j∈X->hget (zes (qz X) (zpw bi ob e k xs)) j=.free :=fun j hj=>kp hj
 have hgB:∀j,j∉X->hget (zes (qz X) (zpw bi ob e k xs)) j=if bi=j then .cells [.own ob]else if ob=j then .buf e k xs else .dead :=fun j hj=>by
  rw[qb hj,zl4]
 have hg1:hget (zes (qz X) (zpw bi ob e k xs)) (bi)=.cells [.own ob]:=by grind
 have hg2:hget (zes (qz X) (zpw bi ob e k xs)) ob=.buf e k xs:=by grind
 have hrel:Rel c1 ⟨psG ps.toList A (zgw [i0] sl),zes (qz X) (zpw bi ob e k xs)⟩ {tmps:=(rc.params.zip vs.toArray).foldl (fun tmps(t,a)=>tmps.setIfInBounds t a) rc.tmps,defers:= []} W:=by
  refine⟨M2,pb,ow1,fun _=>False,?_,?_,.nil⟩
  .exact {
    os:=rfl,tape:=rfl,output:=rfl,size:=qd _,keep:=fun _ _ _=>rfl,fresh:=hcore.fresh,m0:=fun _ h=>h,m1:=hcore.fresh
    mt:=fun j b hb=>by
     rcases hblB j b hb with ⟨_,rfl⟩|⟨_,h⟩
     .exact hcore.gm _ hJ.sb
     .exact hcore.gm b (hx4 b h).1
    inj:=fun j q b hj hq=>by
     grind
    gm:=fun b h=>h.elim,gl:=fun b h=>h.elim,gd:=fun _ _ _ h=>h
    loc:=fun j b hb=>by
     grind[zep]
    farp:=fun _ _ _ h=>h,farw:=fun _ _ _ h=>.inl h
    dpt:=fun j b hb=>by
     obtain⟨h1,_⟩:=(hptb j b).1 hb;rw[h1,hg1];rfl
    dow:=fun j x hb=>by
     obtain⟨h1,_⟩:=how1 j x hb;rw[h1,hg2];rfl
    blk:=fun j=>by
     by_cases hjX:j∈X
     .rw[hnX j hjX];trivial
     .rw[hgB j hjX];split
      .rename_i e1;subst e1;exact⟨b0,cs0,Ty0,(hptb _ _).2 ⟨rfl,rfl⟩,hx1⟩
      .split
       .rename_i e2;subst e2;exact⟨h0,by simp[ow1],hx3⟩
       .trivial}
  .intro pt' ow' hag;have ha1:=hag (bi) (by rw[hg1];rfl);have ha2:=hag ob (by rw[hg2];rfl);have hle:Env.le ⟨zu W M2,pb,fun _=>none⟩ ⟨zu W M2,pt',ow'⟩ (vj (psG ps.toList A (zgw [i0] sl))):=⟨fun _ _ h=>h,fun j hj=>by
    have hj':j=bi:=by
     rcases zpl _ _ _ _ hj with h|h
     .grind
     .have:=zdc _ _ _ h;grind[qfr,qn]
    grind⟩
   refine⟨?_,fun j m b cs Ty hm hb hcs=>?_⟩
   .have hvs':Rs ⟨zu W M2,pb,fun _=>none⟩ A vs:=Rs.imp (ρ:=⟨zu W M2,pt2,ow2⟩) A vs ⟨fun _ _ h=>h,fun i hi=>by grind⟩ hvs;have h1:=zvl ps.toList A vs (zgw [i0] sl) tm hvs' hrs;have e:((rc.params.zip vs.toArray).foldl (fun tmps(t,a)=>tmps.setIfInBounds t a) rc.tmps)=(ps.toList.zip vs).foldl (fun t(p,v)=>t.setIfInBounds p v) tm:=by
     rw[hrc,<-Array.foldl_toList];simp
    rw[e];exact h1.imp _ _ hle
   .by_cases hjX:j∈X
    .grind
    .rw[hgB j hjX]at hm;split at hm
     .rename_i e1;subst e1;cases hm
      obtain⟨_,h2⟩:=(hptb _ _).1 hb;subst h2;rw[hx1]at hcs;cases hcs
      rw[hx2];refine⟨⟨hx3.slice,fun x hx=>?_⟩,trivial⟩;grind
     grind
 have hrcA:rc.assign=asg:=by rw[hrc]
 have hrcB:rc.body=body:=by rw[hrc]
 rw[hrcA,hrcB];refine ihA ⟨qF.inRound l,.inr ⟨l,rfl⟩⟩ c1 _ _ _ _ W hrel hk fun ex G a1 W1 hr hk1=>?_
 cases ex with
 |normal=>
  have hL1:W1.heap[l]? =some (.loop rc):=by
   obtain⟨_,_,_,_,hg,_⟩:=hr;rw[hg.keep l hlW fun h=>(hmine l h).2.1 rfl];exact hJ.hl
  refine⟨_,run_beginRound hL1 (by rw[hrc]),?_⟩;have hr2:=hr.touch (.loop {rc with state:=.busy}) hlM (fun h=>(hmine l h).2.1 rfl) hlW (by grind);refine ihB ⟨qF.inRound l,.inr ⟨l,rfl⟩⟩ _ _ _ _ a1 _ hr2 hk1 fun ex τ2 a2 W2 hr3 hk2=>?_
  cases ex with
  |normal=>
   obtain⟨hend⟩:=hk2;obtain⟨M3,pt3,ow3,S3,hg3,hs3,_⟩:=hr3;have hkeep:∀b,b<W.heap.size->¬c1.mine b->b≠l->W2.heap[b]? =W.heap[b]? :=fun b hb hm hne'=>by
    rw[hg3.keep b (by simpa[qG]using hb) hm];exact qq W _ hne'
   have hL2:W2.heap[l]? =some (.loop {rc with state:=.busy}):=by
    rw[hg3.keep l (by grind[qG]) fun h=>(hmine l h).2.1 rfl];exact qH hlW
   refine⟨_,_,run_endRound none hL2,?_⟩;have hsz:W.heap.size<=W2.heap.size:=by have:=hg3.size;grind[qG]
   obtain⟨Wf,hWf⟩:∃Wf,Wf=W2.putObj l (.loop rc):=⟨_,rfl⟩;have hWf':W2.putObj l (.loop {({rc with state:=.busy}:Loop)with state:=if(none:Option Code).isNone then .ready else .done,pending:=none})=Wf:=by grind
   rw[hWf'];have hfsz:Wf.heap.size=W2.heap.size:=by rw[hWf];simp[qG]
   have hfne:∀b,b≠l->Wf.heap[b]? =W2.heap[b]? :=fun b hb=>by grind[qq]
   have hfl:Wf.heap[l]? =some (.loop rc):=by grind[qH,zj]
   obtain⟨ptN,owN,hgN,hless,hcel⟩:=hg3.weaken (zhd hend);have hz1:hget (zpw bi z e k xs') (bi)=.cells [.own z]:=by rw[zl4,Z4 rfl]
   have hz2:hget (zpw bi z e k xs') z=.buf e k xs':=by grind[zl4]
   obtain⟨b,cs,Ty,h1,h2⟩:=hgN.cel _ _ hz1;have hb:b=b0:=((hptb _ _).1 (hgN.farp (bi) b (by grind[zep]) h1)).2;subst hb;obtain⟨h',hz3,hz4⟩:=hgN.buf _ _ _ _ hz2;obtain⟨m0,h3,h4,h5⟩:=hcel _ _ hz1;have h1':=h1;rw[h5]at h1';have h6:=(hs3 pt3 ow3 (Agr.refl _ _ _)).2 _ m0 b cs Ty h3 h1' h2;have h7:=Rs.le _ _ _ h4 (hless _) h6;have hcs:cs.toList= [h']:=by
    match hcl:cs.toList,h7 with
    | [v],⟨⟨_,hv⟩,_⟩=>rw[hv h' hz3]
   have hblz:∀q,vbl h'=some q->bl ptN owN z=some q:=fun q hq=>by
    unfold bl;rw[hgN.ptow hz3,hz3];obtain⟨ao,n,cp,rfl⟩:=hz4.slice;cases ao<;>exact hq
   have hblb:bl ptN owN (bi)=some b:=by simp[bl,h1]
   have hq1:∀q,vbl h'=some q->q≠b:=fun q hq e1=>hz (hgN.inj z (bi) b (by grind) hblb)
   have hq2:∀q,vbl h'=some q->(W.heap.size<=q\/vbl h0=some q):=fun q hq=>by
    rcases hgN.loc z q (hblz q hq)with h8|⟨h8,_⟩
    .grind[qG]
    grind
   have hq3:∀q,vbl h'=some q->q≠D/\q≠l:=fun q hq=>by
    grind
   let S4:Nat->Prop:=fun q=>S2 q\/vbl h'=some q
   let M4:Nat->Prop:=fun q=>M2 q\/vbl h'=some q
   have hM43:∀q,M4 q->M3 q:=fun q hq=>hq.elim (hg3.m0 q) fun hq=>hgN.mt z q (hblz q hq)
   have hV3:∀b o,zu W2 M3 b o->zu Wf M4 b o:=qa fun b o hm hb=>⟨fun h=>hm (hM43 b h),by grind⟩
   have hVW:∀b o,zu W M2 b o->zu Wf M4 b o:=qa fun b o hm hb=>by
    have hne':b≠l:=fun e=>hm (e▸hlM)
    refine⟨fun h=>h.elim hm fun h=>?_,?_⟩
    .rcases hq2 b h with h8|h8
     .grind
     .exact hm (hcore.gm b (hx4 b h8).1)
    .rw[hfne b hne',hkeep b (zj hb) (fun h=>hm (hcore.gm b (hmine b h).2.2)) hne'];exact hb
   have hbl':b≠l:=O;refine⟨_,M4,pt2,ow2,S4,rfl,?_,?_,?_,?_⟩
   .exact {
     fresh:=fun q hq=>by rw[hfsz];exact hg3.fresh q (hM43 q hq)
     mt:=fun i q hq=>absurd hq (hb2 i q)
     inj:=fun i j q hq=>absurd hq (hb2 i q)
     gm:=fun q hq=>hq.elim (fun h=>.inl (hcore.gm q h)) .inr
     gd:=fun i q hq=>absurd hq (hb2 i q)
     dpt:=fun i q hq=>by grind
     dow:=fun i q hq=>by grind
     blk:=fun i=>by
      rw[yx];split
      .rename_i e;subst e;have hD':Wf.heap[D]? =some (.deferred (some [])):=by
        rw[hfne D O,hkeep D hDW (fun h=>(hmine D h).1 rfl) O];exact hJ.hd
       refine⟨rfl,GhostO.stab _ _ _ _ _ _ _ _ _ _ _,⟨.inl hJ.sd,.inl hJ.sl_,hD',hfl,.inl hJ.sb,⟨cs,Ty,h',by grind,hcs,?_,fun q hq=>⟨.inr hq,hq1 q hq,(hq3 q hq).1,(hq3 q hq).2⟩⟩,hrs2.imp _ _ (Env.le_view hVW _)⟩⟩;exact hz4.mono hV3 fun q cap cs' e1 e2=>by grind
      .trivial}
   .intro i m q cs Ty hm;grind
   .rfl
   .exact {
     os:=by rw[hWf];exact hg3.os
     tape:=by rw[hWf];exact hg3.tape
     output:=by rw[hWf];exact hg3.output
     size:=O
     same:=fun q hq _ hS=>by
      have hne':q≠l:=fun e=>hS (e▸hJ.sl_)
      grind
     mm:=fun _ h=>.inl h
     mn:=fun q h=>h.elim .inl fun h=>(hq2 q h).elim .inr fun h8=>.inl (hcore.gm q (hx4 q h8).1)
     sn:=fun q h=>h.elim .inl fun h=>(hq2 q h).elim .inr fun h8=>.inl (hx4 q h8).1
     lept:=fun _ _ h=>.inl h,leow:=fun _ _ h=>.inl h}
  | _=>grind
 | _=>grind
def roOk(T:Tab)(sl:List AV)(hp:Hp)(g:Nat)(i0 k0 bi ob:Nat)(caps:List AV)(ib:List Blk)(X:List Nat):Bool:=
 q2 (qfm T g) 0&&yg (qi hp (nub (vj caps)))&&zcf (nub (vj caps)) ib&&yg ib&&zyu (zde (wk (nub (vj caps)) ib)) (nub (vj caps))&&zd5 [vu] (nub (vj caps))&&ltB (nub (vj caps))&&
  zd5 [i0,k0] (nub (vj caps))&&zd5 [k0] (i0::vj sl++zde (zdt hp i0 .dead))&&q3 i0 399999&&q3 k0 999999&&zd5 [bi,ob] X&&q3 1400000 ob
open Classical in
set_option maxHeartbeats 2000000 in
theorem zmx{asg body:Code}(ihA:zcx P T asg)(ihB:zcx P T body){f:Operand}{ps:Array Tmp}{Q:Exit->Act->World->Prop}(h:Rel c σ a w){g:Nat}{caps:List AV}(hf:zo σ.sl f=.fn g caps)
 {i0 k0 bi ob:Nat} {e:TypeId} {k:Elt} {X Y:Type} {xs:X->List k.T} {args:Y->List AV} {next:X->Y->X} {x₀ xE:X} {r:AV} {ib:List Blk} (hbi:bi=zep i0)
 (hc0:hget σ.hp i0=.cells [.own k0]) (hc1:hget σ.hp k0=.buf e k (xs x₀)) (hok:roOk T σ.sl σ.hp g i0 k0 bi ob caps ib (ze T asg++ze T body)=true) (hargs:∀y,zyy (vj (args y))=true)
 (ok:X->Prop) (hcall:∀(l:Nat)(J:X->GJ),(∀x y,ok x->qds P l [(vu,.gst (J x))] (args y) (.bool true) [(vu,.gst (J (next x y)))])->
   zmk P g ((vu,.gst (J x₀))::wk (nub (vj caps)) (qi σ.hp (nub (vj caps)))) (.cb l::caps) r ((vu,.gst (J xE))::wk (nub (vj caps)) ib))
 (hbody:∀x y,ok x->∃z,z≠bi/\zgu ps.toList (args y) (zgw [i0] σ.sl) fun sl=>je T (CN P) false asg ⟨sl,zes (qz (ze T asg++ze T body)) (zpw bi ob e k (xs x))⟩ fun ex G=>match ex with
   |.normal =>je T (CN P) false body G fun ex G=>match ex with
     |.normal =>EndO bi z e k (xs (next x y)) G
     | _=>False
   | _=>False)
 (hQ:∀a w,Rel c ⟨σ.sl,qh (zdt σ.hp k0 (.buf e k (xs xE))) (nub (vj caps)) ib⟩ a w->Q .normal a w):(Code.rangeFunc f ps asg body).wpIn qF 0 P Q a w:=by
 simp only[roOk,q4]at hok;obtain⟨⟨⟨⟨⟨⟨⟨⟨⟨⟨⟨⟨hnb,hnfc⟩,hlib⟩,hnfb⟩,hsub1⟩,hcb⟩,hltc⟩,hdis⟩,hdk⟩,hi0⟩,hk0⟩,hdX⟩,hob⟩:=hok;have hi0:=q0 hi0;have hk0:=q0 hk0;have hob:=q0 hob;have hdis:=(jd _ _).1 hdis;have hdk:=(jd _ _).1 hdk;have hdX:=(jd _ _).1 hdX;have hi0c:i0∉nub (vj caps):=hdis i0 OC;have hk0c:k0∉nub (vj caps):=hdis k0 OC;have hcb:vu∉nub (vj caps):=(jd _ _).1 hcb vu OC;have hltc:=zee hltc;have hsub1:=xw _ _ hsub1;have hkdis:=hdk k0 OC;simp only[q8,q6,q9,not_or]at hkdis;obtain⟨hk0i,hk0sl,hk0h⟩:=hkdis;generalize hic:nub (vj caps)=ic at*;have hicnd:ic.Nodup:=by rw[<-hic];exact zao _
 obtain⟨M,pt,ow,S,hg,hs,hd⟩:=h;obtain⟨hsl,hct⟩:=hs pt ow (Agr.refl _ _ _);have hfv:=zc hsl f;rw[hf]at hfv;simp only[R]at hfv;obtain⟨vcaps,hfv,hcaps⟩:=hfv;obtain⟨b0,cs0,Ty0,hp0,hh0⟩:=hg.cel i0 _ hc0;obtain⟨h00,how0,hbuf0⟩:=hg.buf k0 _ _ _ hc1;have hcs0:cs0.toList= [h00]:=by
  match hcl:cs0.toList,hct i0 _ b0 cs0 Ty0 hc0 hp0 hh0 with
  | [v],⟨⟨_,hv⟩,_⟩=>rw[hv h00 how0]
 have hbk0:∀b,vbl h00=some b->bl pt ow k0=some b:=fun b hb=>by
  unfold bl;rw[hg.ptow how0,how0];obtain⟨ao,n,cp,rfl⟩:=hbuf0.slice;cases ao<;>exact hb
 have hbi0:bl pt ow i0=some b0:=by simp[bl,hp0]
 have hb0ne:∀b,vbl h00=some b->b≠b0:=fun b hb e1=>hk0i (hg.inj k0 i0 b (hbk0 b hb) (e1▸hbi0))
 refine wpIn_rangeFunc fun fn _=>?_
 obtain⟨D,hD⟩:∃D,D=w.heap.size:=⟨_,rfl⟩;obtain⟨l,hl⟩:∃l,l=D+1:=⟨_,rfl⟩;obtain⟨rc,hrc⟩:∃rc:Loop,rc= {state:=.ready,pending:=none,fn:=fn,tmps:=a.tmps,params:=ps,assign:=asg,body:=body,defers:=D}:=⟨_,rfl⟩;obtain⟨w1,hw1⟩:∃w1,w1=(w.alloc (.deferred (some []))).alloc (.loop rc):=⟨_,rfl⟩;have he1:Ext w w1:=by
  have h1:=Ext.alloc w (.deferred (some []));have h2:=Ext.alloc (w.alloc (.deferred (some []))) (.loop rc);rw[hw1];exact⟨h2.os.trans h1.os,h2.tape.trans h1.tape,h2.output.trans h1.output,qA h1.size h2.size,fun b hb'=>(h2.block b OE).trans (h1.block b hb')⟩
 have hw1sz:w1.heap.size=w.heap.size+2:=by rw[hw1];simp
 have hD1:w1.heap[D]? =some (.deferred (some [])):=by
  rw[hw1,hD,(Ext.alloc (w.alloc (.deferred (some []))) (.loop rc)).block _ OC];exact qI _ _
 have hl1:w1.heap[l]? =some (.loop rc):=by
  rw[hw1,hl,hD];have:=qI (w.alloc (.deferred (some []))) (.loop rc);rwa [World.size_alloc]at this
 have hMlt:∀b,M b->b<w.heap.size:=hg.fresh;have hbllt:∀i b,bl pt ow i=some b->b<w.heap.size:=fun i b hb'=>hMlt b (hg.mt i b hb')
 have hptlt:∀i b,pt i=some b->b<w.heap.size:=fun i b hb'=>hbllt i b (by simp[bl,hb'])
 have hb0lt:=hptlt i0 b0 hp0;have hv0lt:∀b,vbl h00=some b->b<w.heap.size:=fun b hb=>hbllt k0 b (hbk0 b hb)
 let M1:Nat->Prop:=fun b=>M b\/b=D\/b=l
 let S1:Nat->Prop:=fun b=>b=D\/b=l\/b=b0\/vbl h00=some b
 let ptR:Nat->Option Nat:=fun i=>if i∈ic then pt i else none
 let owR:Nat->Option Value:=fun i=>if i∈ic then ow i else none
 have hptR:∀i b,ptR i=some b->i∈ic/\pt i=some b:=fun i b hb'=>by
  by_cases hi:i∈ic
  .exact⟨hi,by simpa only[ptR,hi,if_true]using hb'⟩
  .simp only[ptR,hi,if_false]at hb';cases hb'
 have howR:∀i b,owR i=some b->i∈ic/\ow i=some b:=fun i b hb'=>by
  by_cases hi:i∈ic
  .exact⟨hi,by simpa only[owR,hi,if_true]using hb'⟩
  .simp only[owR,hi,if_false]at hb';cases hb'
 have hblR:∀i b,bl ptR owR i=some b->i∈ic/\bl pt ow i=some b:=fun i b hb'=>by
  by_cases hi:i∈ic
  .exact⟨hi,by simpa only[bl,ptR,owR,hi,if_true]using hb'⟩
  .simp only[bl,ptR,owR,hi,if_false]at hb';cases hb'
 have hV1:∀b o,zu w M b o->zu w1 M1 b o:=qa fun b o hm hb'=>⟨fun h'=>by
  have:=zj hb';rcases h' with h'|h'|h'
  .exact hm h'
  .omega
  .omega,he1.get hb'⟩
 have hleR:∀ids:List Nat,Env.le ⟨zu w M,pt,ow⟩ ⟨zu w1 M1,ptR,owR⟩ ids:=fun ids=>⟨hV1,fun i _=>⟨fun b hb'=>(hptR i b hb').2,fun b hb'=>(howR i b hb').2⟩⟩
 let J:X->GJ:=fun x=>GhostO i0 b0 pt e k (xs x) σ.sl a.tmps D l rc
 have hgetZ:∀(x:Blk)(bs:List Blk)i,hget ((vu,x)::wk ic bs) i=if vu=i then x else hget (wk ic bs) i:=fun x bs i=>zf _ _ _ _
 have hJ0:J x₀ S1 (zu w1 M1) w1:=by
  refine⟨.inl rfl,.inr (.inl rfl),hD1,hl1,.inr (.inr (.inl rfl)),⟨cs0,Ty0,h00,he1.get hh0,hcs0,hbuf0.mono hV1 fun b cap cs _ h2=>he1.get h2,fun b hb=>⟨.inr (.inr (.inr hb)),hb0ne b hb,?_,?_⟩⟩,?_⟩
  .have:=hv0lt b hb;omega
  .have:=hv0lt b hb;omega
  .exact(Rs.mvl (pt':=ptB [i0] pt) (ow':=fun _=>none) (fun i hi=>zeb hi) σ.sl _ hsl).imp _ _ (Env.le_view hV1 _)
 have hcore1:Core M1 ptR owR S1 ((vu,.gst (J x₀))::wk ic (qi σ.hp ic)) w1:= {
  fresh:=fun b hb'=>by
   rcases hb' with h'|h'|h'
   .have:=hMlt b h';omega
   .omega
   .omega
  mt:=fun i b hb'=>.inl (hg.mt i b (hblR i b hb').2)
  inj:=fun i j b hi hj=>hg.inj i j b (hblR i b hi).2 (hblR j b hj).2
  gm:=fun b hb'=>by
   rcases hb' with h'|h'|h'|h'
   .exact .inr (.inl h')
   .exact .inr (.inr h')
   .exact .inl (hg.mt i0 b (h'▸hbi0))
   .exact .inl (hg.mt k0 b (hbk0 b h'))
  gd:=fun i b hb' hS=>by
   obtain⟨hi,hb''⟩:=hblR i b hb';have:=hbllt i b hb'';rcases hS with h'|h'|h'|h'
   .omega
   .omega
   .have:=hg.inj i i0 b hb'' (h'▸hbi0);exact hi0c (this▸hi)
   .have:=hg.inj i k0 b hb'' (hbk0 b h');exact hk0c (this▸hi)
  dpt:=fun i b hb'=>by
   obtain⟨hi,hb''⟩:=hptR i b hb';rw[hgetZ,Z5 (show ¬vu=i from fun e=>hcb (e▸hi)),qr σ.hp hi];exact hg.dpt i b hb''
  dow:=fun i b hb'=>by
   obtain⟨hi,hb''⟩:=howR i b hb';rw[hgetZ,Z5 (show ¬vu=i from fun e=>hcb (e▸hi)),qr σ.hp hi];exact hg.dow i b hb''
  blk:=fun i=>by
   rw[hgetZ];by_cases e1:vu=i
   .rw[Z4 e1];exact⟨e1.symm,GhostO.stab _ _ _ _ _ _ _ _ _ _ _,hJ0⟩
   .rw[Z5 e1];by_cases hi:i∈ic
    .rw[qr σ.hp hi];have h1:=(hg.blk i).mono (w':=w1) (V':=zu w1 M1) (pt':=pt) (ow':=ow) rfl rfl hV1 (fun _=>hg.ptow) (fun _ _ _ hh=>he1.get hh) (fun _ _ _ hh=>he1.get hh);have h2:=h1.ren (pt':=ptR) (ow':=owR) (S':=S1) (i:=i) id (by simp only[ptR,Z4 hi]) (by simp only[owR,Z4 hi]) (fun e'=>absurd e'.symm e1)
     rwa [Blk.mapI_id']at h2
    .rw[jp hi];trivial}
 have hcall':=hcall l J (fun x y hx=>by
  obtain⟨z,hz,hb⟩:=hbody x y hx;exact zu7 (P:=P) (T:=T) ihA ihB hbi hi0 hob hz hp0 (by rw[hD];exact hb0lt) hl (hdX bi OC) (hdX ob OC) (hargs y) rc hrc hb)
 obtain⟨⟨fg,hfg,hbg,hng⟩,hokc⟩:=hcall';have hcallee:=hokc w1 M1 ptR owR S1 (.func (.yield l) #[] #[]::vcaps.toList) hcore1 (fun i m b cs Ty hm hb' hcs=>by
  obtain⟨hi,hb''⟩:=hptR i b hb';rw[hgetZ,Z5 (show ¬vu=i from fun e=>hcb (e▸hi)),qr σ.hp hi]at hm;obtain⟨b1,cs1,Ty1,h1,h2⟩:=hg.cel i m hm;rw[hb'']at h1;cases h1
  have:=he1.get h2;rw[hcs]at this;cases this
  exact(hct i m b cs Ty hm hb'' h2).imp _ _ (hleR _)) (by simp only[Rs,R];exact⟨trivial,hcaps.imp _ _ (hleR _)⟩)
 refine⟨l,[{target:=.collected D,args:= #[]}],w1,{target:=.fn (.func g) vcaps,args:= #[.func (.yield l) #[] #[]]},w1,g,#[.func (.yield l) #[] #[]]++vcaps,w1,?_,?_,fun _ _=>trivial,?_,(fun h'=>by cases h'),?_⟩
 .have:=run_enterLoop_outer (P:=P) (w:=w) fn a.tmps ps asg body;rw[hw1,hrc,hl,hD];exact this
 .simp only[resolve,rangeCall,hfv];simp[Deferred.ofValue,Act.eval]
 .have hprog:(program).run P w1=.ok P w1:=rfl;simp only[invoke,callFunc,Sem.run_bind,hprog,Result.andThen_ok,hfg,hng,hbg,q7,if_false,Sem.run_pure]
 have evs:(Value.func (.yield l) #[] #[]::vcaps.toList).toArray = #[.func (.yield l) #[] #[]]++vcaps:=by apply Array.ext';simp
 rw[evs]at hcallee;refine(callsIn_wide.2 hcallee).mono fun ex w3 hans=>?_
 obtain⟨v,M3,pt3,ow3,S3,rfl,hcore3,hconts3,hr3,hleft⟩:=hans;have hJE:=hcore3.blk vu;rw[hgetZ,Z4 rfl]at hJE;obtain⟨_,_,hJ⟩:=hJE;have hst:rc.state≠ .busy :=by simp[hrc]
 refine⟨_,_,run_endLoop hJ.hl hst,?_⟩;obtain⟨w4,hw4⟩:∃w4,w4=w3.putObj l (.loop {rc with state:=.exhausted}):=⟨_,rfl⟩;rw[<-hw4];have hw4ne:∀b,b≠l->w4.heap[b]? =w3.heap[b]? :=fun b hb'=>by rw[hw4];exact qq w3 _ hb'
 have hw4sz:w4.heap.size=w3.heap.size:=by rw[hw4];simp[qG]
 obtain⟨csE,TyE,hE,hE1,hE2,hE3,hE4⟩:=hJ.bx;have hsE:∀b,vbl hE=some b->w.heap.size<=b\/vbl h00=some b:=fun b hb=>by
  obtain⟨h1,h2,h3,h4⟩:=hE4 b hb;rcases hleft.sn b h1 with h5|h5
  .rcases h5 with h5|h5|h5|h5
   .exact absurd h5 h3
   .exact absurd h5 h4
   .exact absurd h5 h2
   .exact .inr h5
  .exact .inl O
 have hptI:∀i b,i∈ic->pt3 i=some b->pt i=some b:=fun i b hi hb'=>by
  rcases hleft.lept i b hb' with h1|⟨_,h1⟩
  .exact(hptR i b h1).2
  .have:=hltc i hi;omega
 have howI:∀i b,i∈ic->ow3 i=some b->ow i=some b:=fun i b hi hb'=>by
  rcases hleft.leow i b hb' with h1|⟨_,h1⟩
  .exact(howR i b h1).2
  .have:=hltc i hi;omega
 have hsame:∀b,b<w.heap.size->(∀i,i∈ic->bl pt ow i≠some b)->b≠b0->vbl h00≠some b->w4.heap[b]? =w.heap[b]? :=fun b hb' h1 h2 h3=>by
  rw[hw4ne b O,hleft.same b O (fun i hi=>h1 i (hblR i b hi).1 (hblR i b hi).2) (fun hS=>by
   rcases hS with h'|h'|h'|h'
   .omega
   .omega
   .exact h2 h'
   .exact h3 h'),he1.block b hb']
 let M4:Nat->Prop:=fun b=>M3 b/\b≠D
 have hMM:∀b,M b->M4 b:=fun b hb'=>⟨hleft.mm b (.inl hb'),by have:=hMlt b hb';omega⟩
 have hlM3:M3 l:=hcore3.gm l hJ.sl_;have hV4:∀b o,zu w M b o->zu w4 M4 b o:=qa fun b o hm hb'=>by
  have hlt:=zj hb';refine⟨fun h'=>?_,?_⟩
  .rcases hleft.mn b h'.1 with h1|h1
   .rcases h1 with h1|h1|h1
    .exact hm h1
    .omega
    .omega
   .omega
  .rw[hsame b hlt (fun i _ h1=>hm (hg.mt i b h1)) (fun h1=>hm (hg.mt i0 b (h1▸hbi0))) fun h1=>hm (hg.mt k0 b (hbk0 b h1))];exact hb'
 have hV34:∀b o,zu w3 M3 b o->zu w4 M4 b o:=qa fun b o hm hb'=>⟨fun h'=>hm h'.1,by rw[hw4ne b fun e=>hm (e▸hlM3)];exact hb'⟩
 let pt4:Nat->Option Nat:=fun i=>if i∈ic then pt3 i else pt i
 let ow4:Nat->Option Value:=fun i=>if i∈ic then ow3 i else if i=k0 then some hE else ow i
 have h4c:∀i,i∈ic->pt4 i=pt3 i/\ow4 i=ow3 i:=fun i hi=>by simp only[pt4,ow4,Z4 hi];exact⟨trivial,trivial⟩
 have h4k:pt4 k0=none/\ow4 k0=some hE:=by
  simp only[pt4,ow4,Z5 hk0c,if_true];exact⟨hg.ptow how0,trivial⟩
 have h4n:∀i,i∉ic->i≠k0->pt4 i=pt i/\ow4 i=ow i:=fun i hi hk=>by simp only[pt4,ow4,Z5 hi,Z5 hk];exact⟨trivial,trivial⟩
 have h4p:∀i b,pt4 i=some b->pt i=some b:=fun i b hb'=>by
  by_cases hi:i∈ic
  .rw[(h4c i hi).1]at hb';exact hptI i b hi hb'
  .simp only[pt4,Z5 hi]at hb';exact hb'
 have h4w:∀i b,i≠k0->ow4 i=some b->ow i=some b:=fun i b hk hb'=>by
  by_cases hi:i∈ic
  .rw[(h4c i hi).2]at hb';exact howI i b hi hb'
  .rw[(h4n i hi hk).2]at hb';exact hb'
 have hblc:∀i b,bl pt4 ow4 i=some b->(i=k0/\vbl hE=some b)\/(i≠k0/\bl pt ow i=some b):=fun i b hb'=>by
  by_cases hk:i=k0
  .refine .inl ⟨hk,?_⟩;subst hk;unfold bl at hb';rw[h4k.1,h4k.2]at hb';obtain⟨ao,n,cp,rfl⟩:=hE3.slice;cases ao<;>exact hb'
  .refine .inr ⟨hk,?_⟩;unfold bl at hb'⊢
   cases hq:pt4 i with
   |some z=>rw[hq]at hb';rw[h4p i z hq];exact hb'
   |none=>
    rw[hq]at hb'
    cases hq2:ow4 i with
    |none=>rw[hq2]at hb';cases hb'
    |some z=>
     rw[hq2]at hb';rw[hg.ptow (h4w i z hk hq2),h4w i z hk hq2];exact hb'
 let hq:Hp:=qh (zdt σ.hp k0 (.buf e k (xs xE))) ic ib
 have hkk:kv σ.hp k0:=zt (by rw[hc1];simp);have hqc:∀i,i∈ic->kv σ.hp i->hget hq i=hget (wk ic ib) i:=fun i hi hk=>by
  show hget (qh _ ic ib) i=_;rw[ju hicnd hlib (zay.2 hk),Z4 hi]
 have hqd:∀i,¬kv σ.hp i->hget hq i=.dead :=fun i hk=>by
  show hget (qh _ ic ib) i=_;rw[ul fun h'=>hk (zay.1 h')]
 have hqk:hget hq k0=.buf e k (xs xE):=by
  show hget (qh _ ic ib) k0=_;rw[ju hicnd hlib (zay.2 hkk),Z5 hk0c,jv hkk]
 have hqo:∀i,i∉ic->i≠k0->hget hq i=hget σ.hp i:=fun i h1 h2=>by
  by_cases hk:kv σ.hp i
  .show hget (qh _ ic ib) i=_;rw[ju hicnd hlib (zay.2 hk),Z5 h1,jc h2]
  .rw[hqd i hk];cases h':hget σ.hp i<;>first|rfl|exact absurd (zt (by rw[h'];simp)) hk
 have hkeybl:∀i b,bl pt ow i=some b->kv σ.hp i:=fun i b hb'=>by
  refine zt fun e=>?_
  unfold bl at hb';rw[hg.ptn (i:=i) (by rw[e];rfl),hg.own (i:=i) (by rw[e];rfl)]at hb';cases hb'
 have hH1c:∀i,i∈ic->hget ((vu,.gst (J xE))::wk ic ib) i=hget (wk ic ib) i:=fun i hi=>by rw[hgetZ,Z5 (show ¬vu=i from fun e=>hcb (e▸hi))]
 have hfinal:Rel c ⟨σ.sl,hq⟩ {a with defers:= [{target:=.collected D,args:= #[]}]++a.defers} w4:=by
  refine⟨M4,pt4,ow4,S,?_,?_,?_⟩
  .exact {
    os:=by rw[hw4];exact hleft.os.trans (he1.os.trans hg.os)
    tape:=by rw[hw4];exact hleft.tape.trans (he1.tape.trans hg.tape)
    output:=by rw[hw4];exact hleft.output.trans (he1.output.trans hg.output)
    size:=by have h1:=hg.size;have h2:=he1.size;have h3:=hleft.size;omega
    keep:=fun b hb' hm=>by
     have:=hg.size;have hno:∀i,bl pt ow i≠some b:=fun i h1=>by
      rcases hg.loc i b h1 with h2|h2
      .omega
      .exact hm h2.1
     rw[hsame b O (fun i _=>hno i) (fun h1=>hno i0 (h1▸hbi0)) fun h1=>hno k0 (hbk0 b h1)];exact hg.keep b hb' hm
    fresh:=fun b hb'=>by rw[hw4sz];exact hcore3.fresh b hb'.1
    m0:=fun b hb'=>hMM b (hg.m0 b hb')
    m1:=hg.m1
    mt:=fun i b hb'=>by
     rcases hblc i b hb' with ⟨_,h1⟩|⟨_,h1⟩
     .have:=hE4 b h1;exact⟨hcore3.gm b this.1,this.2.2.1⟩
     .exact hMM b (hg.mt i b h1)
    gm:=fun b hb'=>hMM b (hg.gm b hb')
    gl:=hg.gl
    gd:=fun i b hb' hS=>by
     rcases hblc i b hb' with ⟨_,h1⟩|⟨_,h1⟩
     .rcases hsE b h1 with h2|h2
      .have:=hg.fresh b (hg.gm b hS);omega
      .exact hg.gd k0 b (hbk0 b h2) hS
     .exact hg.gd i b h1 hS
    loc:=fun i b hb'=>by
     rcases hblc i b hb' with ⟨h0,h1⟩|⟨_,h1⟩
     .rcases hsE b h1 with h2|h2
      .exact .inl (qA hg.size h2)
      .rw[h0];exact hg.loc k0 b (hbk0 b h2)
     .exact hg.loc i b h1
    farp:=fun i b hi hb'=>hg.farp i b hi (h4p i b hb')
    farw:=fun i b hi hb'=>hg.farw i b hi (h4w i b O hb')
    inj:=fun i j b hi hj=>by
     rcases hblc i b hi with ⟨h0,h1⟩|⟨h0,h1⟩<;>rcases hblc j b hj with ⟨h2,h3⟩|⟨h2,h3⟩
     .rw[h0,h2]
     .rcases hsE b h1 with h4|h4
      .have:=hbllt j b h3;omega
      .exact absurd (hg.inj j k0 b h3 (hbk0 b h4)) h2
     .rcases hsE b h3 with h4|h4
      .have:=hbllt i b h1;omega
      .exact absurd (hg.inj i k0 b h1 (hbk0 b h4)) h0
     .exact hg.inj i j b h1 h3
    dpt:=fun i b hb'=>by
     by_cases hi:i∈ic
     .rw[hqc i hi (hkeybl i b (by simp[bl,h4p i b hb']))];rw[(h4c i hi).1]at hb';rw[<-hH1c i hi];exact hcore3.dpt i b hb'
     .by_cases hk:i=k0
      .rw[hk,h4k.1]at hb';cases hb'
      .rw[hqo i hi hk];exact hg.dpt i b (h4p i b hb')
    dow:=fun i b hb'=>by
     by_cases hk:i=k0
     .rw[hk,hqk];rfl
     .have h1:=hg.dow i b (h4w i b hk hb');by_cases hi:i∈ic
      .rw[hqc i hi (zt fun e=>by rw[e]at h1;cases h1)];rw[(h4c i hi).2]at hb';rw[<-hH1c i hi];exact hcore3.dow i b hb'
      .rw[hqo i hi hk];exact h1
    blk:=fun i=>by
     by_cases hi:i∈ic
     .by_cases hk:kv σ.hp i
      .rw[hqc i hi hk];have h1:=hcore3.blk i;rw[hH1c i hi]at h1;have hne:i≠vu:=fun e=>hcb (e▸hi)
       cases e2:hget (wk ic ib) i with
       |gst J'=>rw[e2]at h1;exact absurd h1.1 hne
       |free=>trivial
       |dead=>trivial
       |cells m=>
        rw[e2]at h1;obtain⟨b,cs,Ty,h3,h4⟩:=h1;exact⟨b,cs,Ty,by rw[(h4c i hi).1];exact h3,by rw[hw4ne b fun e=>hcore3.gd i b (by simp[bl,h3]) (e▸hJ.sl_)];exact h4⟩
       |buf et k xs=>
        rw[e2]at h1;obtain⟨hd',h3,h4⟩:=h1;exact⟨hd',by rw[(h4c i hi).2];exact h3,h4.mono hV34 fun b cap cs hh hcs=>by rw[hw4ne b fun e=>hcore3.gd i b (by simp[bl,hcore3.ptow h3,h3,hh]) (e▸hJ.sl_)];exact hcs⟩
       |map kk vk m=>
        rw[e2]at h1;obtain⟨b,es,clk,h3,h4,h5⟩:=h1;exact⟨b,es,clk,by rw[(h4c i hi).1];exact h3,by rw[hw4ne b fun e=>hcore3.gd i b (by simp[bl,h3]) (e▸hJ.sl_)];exact h4,h5.mono hV34⟩
      .rw[hqd i hk];trivial
     .by_cases hk:i=k0
      .rw[hk,hqk];exact⟨hE,h4k.2,hE3.mono hV34 fun b cap cs e1 e2=>by rw[hw4ne b (hE4 b (by rw[e1];rfl)).2.2.2];exact e2⟩
      .rw[hqo i hi hk];by_cases hi2:i=i0
       .rw[hi2,hc0];exact⟨b0,csE,TyE,by rw[(h4n i0 hi0c fun e=>hk0i e.symm).1];exact hp0,by rw[hw4ne b0 O];exact hE1⟩
       .refine(hg.blk i).mono (h4n i hi hk).1 (h4n i hi hk).2 hV4 (fun _=>hg.ptow) (fun b o hb' hh=>?_) fun b o hS hh=>?_
        .rw[hsame b (zj hh) (fun j hj h1=>hi (hg.inj i j b hb' h1▸hj)) (fun h1=>hi2 (hg.inj i i0 b hb' (h1▸hbi0))) fun h1=>hk (hg.inj i k0 b hb' (hbk0 b h1))];exact hh
        .rw[hsame b (zj hh) (fun j _ h1=>hg.gd j b h1 hS) (fun h1=>hg.gd i0 b (h1▸hbi0) hS) fun h1=>hg.gd k0 b (hbk0 b h1) hS];exact hh}
  .intro ptQ owQ hag;have hnf:∀i,(hget σ.hp i).isFree =false->(hget hq i).isFree =false:=fun i hi0'=>by
    by_cases hi:i∈ic
    .by_cases hk:kv σ.hp i
     .rw[hqc i hi hk];exact yq hnfb
     .rw[hqd i hk];rfl
    .by_cases hk:i=k0
     .rw[hk,hqk];rfl
     .rw[hqo i hi hk];exact hi0'
   have hnfc':∀i,i∈ic->(hget hq i).isFree =false:=fun i hi=>by
    by_cases hk:kv σ.hp i
    .rw[hqc i hi hk];exact yq hnfb
    .rw[hqd i hk];rfl
   let pt5:Nat->Option Nat:=fun i=>if(hget σ.hp i).isFree =true then ptQ i else pt i
   let ow5:Nat->Option Value:=fun i=>if(hget σ.hp i).isFree =true then owQ i else ow i
   have hag5:Agr σ.hp pt pt5 ow ow5:=fun i hi=>by simp[pt5,ow5,hi]
   have hp5:∀i b,ptQ i=some b->pt5 i=some b:=fun i b hb'=>by
    by_cases hfr:(hget σ.hp i).isFree =true
    .simpa[pt5,hfr]using hb'
    .have hfr':(hget σ.hp i).isFree =false:=by simpa using hfr
     simp only[pt5,hfr',q7,if_false];rw[(hag i (hnf i hfr')).1]at hb';exact h4p i b hb'
   have ho5:∀i b,i≠k0->owQ i=some b->ow5 i=some b:=fun i b hk hb'=>by
    by_cases hfr:(hget σ.hp i).isFree =true
    .simpa[ow5,hfr]using hb'
    .have hfr':(hget σ.hp i).isFree =false:=by simpa using hfr
     simp only[ow5,hfr',q7,if_false];rw[(hag i (hnf i hfr')).2]at hb';exact h4w i b hk hb'
   have hle5:∀ids:List Nat,k0∉ids->Env.le ⟨zu w M,pt5,ow5⟩ ⟨zu w4 M4,ptQ,owQ⟩ ids:=fun ids zde=>⟨hV4,fun i hi=>⟨hp5 i,fun b hb=>ho5 i b (fun e=>zde (e▸hi)) hb⟩⟩
   obtain⟨h1,h2⟩:=hs pt5 ow5 hag5;refine⟨h1.imp _ _ (hle5 _ hk0sl),fun i m b cs Ty hm hb' hcs=>?_⟩;by_cases hi:i∈ic
   .have hbo:=h4p i b hb';rw[hqc i hi (hkeybl i b (by simp[bl,hbo]))]at hm;rw[(h4c i hi).1]at hb';have hne:b≠l:=by have:=hptlt i b hbo;omega
    rw[hw4ne b hne]at hcs;refine Rs.imp (ρ:=⟨zu w3 M3,pt3,ow3⟩) m _ ⟨hV34,fun j hj=>?_⟩ (hconts3 i m b cs Ty (by rw[hH1c i hi];exact hm) hb' hcs);have hjc:j∈ic:=hsub1 j (jg hm j hj);have hx:=hag j (hnfc' j hjc);exact⟨fun z hz=>by have:=hx.1.symm.trans hz;rw[(h4c j hjc).1]at this;exact this,fun z hz=>by have:=hx.2.symm.trans hz;rw[(h4c j hjc).2]at this;exact this⟩
   .by_cases hk:i=k0
    .rw[hk,hqk]at hm;cases hm
    .rw[hqo i hi hk]at hm;rw[(h4n i hi hk).1]at hb';by_cases hi2:i=i0
     .rw[hi2]at hm hb';rw[hc0]at hm;cases hm
      rw[hp0]at hb';cases hb'
      rw[hw4ne b0 O,hE1]at hcs;cases hcs
      rw[hE2];refine⟨⟨hE3.slice,fun x hx=>?_⟩,trivial⟩;have hx':owQ k0=some x:=hx;rw[(hag k0 (by rw[hqk];rfl)).2,h4k.2]at hx';exact Option.some.inj hx'
     .obtain⟨b',cs',Ty',h3,h4⟩:=hg.cel i m hm;rw[hb']at h3;cases h3
      have hb'':bl pt ow i=some b:=by simp[bl,hb']
      rw[hsame b (zj h4) (fun j hj h1=>hi (hg.inj i j b hb'' h1▸hj)) (fun h1=>hi2 (hg.inj i i0 b hb'' (h1▸hbi0))) (fun h1=>hk (hg.inj i k0 b hb'' (hbk0 b h1))),h4]at hcs;cases hcs
      refine(h2 i m b cs Ty hm hb' h4).imp _ _ (hle5 _ fun hj=>hk0h ?_);exact jg (i:=i) (by rw[jc hi2];exact hm) k0 hj
  .obtain⟨Ds,h1,h2,h3⟩:=hd;refine⟨D::Ds,by simp[h1,zd2],?_,fun d hd'=>?_⟩
   .rw[List.nodup_cons];exact⟨fun h'=>by have:=zj (h3 D h').2.2;omega,h2⟩
   .rcases q6.1 hd' with rfl|hd'
    .exact⟨by rw[hD];exact hg.size,fun h'=>h'.2 rfl,by rw[hw4ne d O];exact hJ.hd⟩
    .exact⟨(h3 d hd').1,hV4 _ _ (h3 d hd').2⟩
 have:rc.pending=none:=by simp[hrc]
 rw[this];exact hQ _ _ hfinal
end
theorem zsy{P:Program}{T:Tab}(hT:TabOK P T)(hmx:P.follows .mixedOrders =true){res:List ResultVar}{ex:List Nat}{rv:AV}{H':Hp}{x asg body rest:Code}{id:Nat}{f:Operand}{ps:Array Tmp}{sl:List AV}{hp:Hp}
 (σ1:St) (hfr:zd5 (zg2 σ1.hp) σ1.ids=true)
 (h1:zkm sl fun sl=>zti hp fun hp=>za3 T (CN P) x true ⟨sl,hp⟩ (fun σ=>leS σ σ1) (fun _ _=>False) (fun _=>False))
 {g:Nat} {caps:List AV} (hf:zo σ1.sl f=.fn g caps) {i0 k0 bi ob:Nat} {e:TypeId} {k:Elt} {X Y:Type} {xs:X->List k.T} {args:Y->List AV} {next:X->Y->X} {x₀ xE:X} {r:AV} {ib:List Blk} (hbi:bi=zep i0)
 (hc0:hget σ1.hp i0=.cells [.own k0]) (hc1:hget σ1.hp k0=.buf e k (xs x₀)) (hok:roOk T σ1.sl σ1.hp g i0 k0 bi ob caps ib (ze T asg++ze T body)=true) (hargs:∀y,zyy (vj (args y))=true)
 (ok:X->Prop) (hcall:∀(l:Nat)(J:X->GJ),(∀x y,ok x->qds P l [(vu,.gst (J x))] (args y) (.bool true) [(vu,.gst (J (next x y)))])->
   zmk P g ((vu,.gst (J x₀))::wk (nub (vj caps)) (qi σ1.hp (nub (vj caps)))) (.cb l::caps) r ((vu,.gst (J xE))::wk (nub (vj caps)) ib))
 (hbody:∀x y,ok x->∃z,z≠bi/\zgu ps.toList (args y) (zgw [i0] σ1.sl) fun sl=>zti (zes (qz (ze T asg++ze T body)) (zpw bi ob e k (xs x))) fun hp=>
   za3 T (CN P) asg false ⟨sl,hp⟩ (fun G=>za3 T (CN P) body false G (fun G=>EndO bi z e k (xs (next x y)) G) (fun _ _=>False) (fun _=>False)) (fun _ _=>False) (fun _=>False))
 (h2:SemOK P T res ex rv H' rest ⟨σ1.sl,qh (zdt σ1.hp k0 (.buf e k (xs xE))) (nub (vj caps)) ib⟩):
 SemOK P T res ex rv H' (.seq (.seq x (.block id (.rangeFunc f ps asg body))) rest) ⟨sl,hp⟩:=by
 rw[wc,kr,zdl,zdk]at h1;refine⟨fun c0 a w Q hr hq=>wpIn_seq (wpIn_seq (qj hT hmx x true ⟨qF,.inl rfl⟩ c0 _ _ _ a w (fun _=>rfl) hr h1 fun ex1 σ' a' w' hr' hk'=>?_))⟩
 cases ex1 with
 |normal=>
  have hle:leS σ' σ1:=hk';have hr1:=hr'.weaken hle hfr;refine wpIn_block (zmx (T:=T) (fun F' c' σ'' K' Q' a'' w'' h' hk'' hQ'=>qj hT hmx asg false F' c' σ'' K' Q' a'' w'' (fun e=>by cases e) h' hk'' hQ')
   (fun F' c' σ'' K' Q' a'' w'' h' hk'' hQ'=>qj hT hmx body false F' c' σ'' K' Q' a'' w'' (fun e=>by cases e) h' hk'' hQ') hr1 hf hbi hc0 hc1 hok hargs ok hcall (fun xx y hxx=>?_) (fun a2 w2 hr2=>?_))
  .obtain⟨z,hz,hb⟩:=hbody xx y hxx;obtain⟨hl,hb⟩:=zcy _ _ _ _ hb;refine⟨z,hz,zqr _ _ _ _ hl ?_⟩;rw[kr,zdl,zdk]at hb;have e1:∀(B:St->Prop),K3 B (fun _ _=>False) (fun _=>False)=fun x σ=>match x with
    |.normal =>B σ
    | _=>False:=fun B=>by funext x σ;cases x<;>rfl
   have e2:(fun G=>za3 T (CN P) body false G (fun G=>EndO bi z e k (xs (next xx y)) G) (fun _ _=>False) (fun _=>False))=fun G=>je T (CN P) false body G (K3 (fun G=>EndO bi z e k (xs (next xx y)) G) (fun _ _=>False) (fun _=>False)):=by
    funext G;rw[zdl,zdk]
   rw[e2,e1]at hb;simp only[e1]at hb;exact hb
  .exact h2.sem c0 a2 w2 Q hr2 hq
 | _=>exact hk'.elim
theorem zck{hp:Hp}{k:Nat}{b:Blk}(hk:¬kv hp k)(i:Nat):hget (hp++ [(k,b)]) i=if i=k then b else hget hp i:=by
 induction hp with
 |nil=>
  rw[qD,zf];by_cases e:k=i
  .rw[Z4 e,Z4 e.symm]
  .rw[Z5 e,Z5 fun h=>e h.symm]
 |cons x r ih=>
  obtain⟨a,y⟩:=x;have hak:a≠k:=fun e=>hk (by simp[kv,e])
  have hr:¬kv r k:=fun e=>hk (by simp only[kv,List.map_cons,q6];exact .inr e)
  rw[q8,zf,zf,ih hr];by_cases e:a=i
  .rw[Z4 e,Z4 e,Z5 fun h=>hak (e.trans h)]
  .rw[Z5 e,Z5 e]
theorem Rel.addKey{c:Ctx}{sl:List AV}{hp:Hp}{a:Act}{w:World}(h:Rel c ⟨sl,hp⟩ a w){k:Nat}(hk:¬kv hp k)(h1:k∉vj sl)(h2:k∉zde hp):Rel c ⟨sl,hp++ [(k,.free)]⟩ a w:=by
 obtain⟨M,pt,ow,S,hg,hs,hd⟩:=h;have hdead:hget hp k=.dead :=by
  cases e:hget hp k<;>first|rfl|exact absurd (zt (by rw[e];simp)) hk
 have hp0:pt k=none:=hg.ptn (by rw[hdead];rfl);have ho0:ow k=none:=hg.own (by rw[hdead];rfl);refine⟨M,pt,ow,S,?_,?_,hd⟩
 .exact {
   os:=hg.os,tape:=hg.tape,output:=hg.output,size:=hg.size,keep:=hg.keep,fresh:=hg.fresh,m0:=hg.m0,m1:=hg.m1,mt:=hg.mt,loc:=hg.loc,farp:=hg.farp,farw:=hg.farw,inj:=hg.inj,gm:=hg.gm,gl:=hg.gl,gd:=hg.gd
   dpt:=fun i b hb=>by
    rw[zck hk,Z5 fun e=>by rw[e,hp0]at hb;cases hb];exact hg.dpt i b hb
   dow:=fun i b hb=>by
    rw[zck hk,Z5 fun e=>by rw[e,ho0]at hb;cases hb];exact hg.dow i b hb
   blk:=fun i=>by
    rw[zck hk];split
    .trivial
    .exact hg.blk i}
 .intro pt' ow' hag
  let pt2:Nat->Option Nat:=fun i=>if i=k then none else pt' i
  let ow2:Nat->Option Value:=fun i=>if i=k then none else ow' i
  have hag2:Agr hp pt pt2 ow ow2:=fun i hi=>by
   by_cases e:i=k
   .subst e;simp only[pt2,ow2,if_true];exact⟨hp0.symm,ho0.symm⟩
   .simp only[pt2,ow2,Z5 e];exact hag i (by rw[zck hk,Z5 e];exact hi)
  have hle:∀ids:List Nat,k∉ids->Env.le ⟨zu w M,pt2,ow2⟩ ⟨zu w M,pt',ow'⟩ ids:=fun ids hid=>⟨fun _ _ h=>h,fun i hi=>by
   have e:i≠k:=fun e=>hid (e▸hi)
   exact⟨fun b hb=>by show pt2 i=some b;simp only[pt2,Z5 e];exact hb,fun b hb=>by show ow2 i=some b;simp only[ow2,Z5 e];exact hb⟩⟩
  obtain⟨h3,h4⟩:=hs pt2 ow2 hag2;refine⟨h3.imp _ _ (hle _ h1),fun i l b cs T hl hb hcs=>?_⟩;rw[zck hk]at hl;split at hl
  .cases hl
  .exact(h4 i l b cs T hl hb hcs).imp _ _ (hle _ fun hj=>h2 (jg hl k hj))
theorem qey{P:Program}{T:Tab}{res:List ResultVar}{ex:List Nat}{rv:AV}{H':Hp}{c:Code}{sl:List AV}{hp:Hp}(k:Nat)(hk:zd5 [k] (keys hp++vj sl++zde hp)=true)
 (h:SemOK P T res ex rv H' c ⟨sl,hp++ [(k,.free)]⟩):SemOK P T res ex rv H' c ⟨sl,hp⟩:=by
 have h0:=(jd _ _).1 hk k OC;simp only[q9,not_or]at h0;exact⟨fun c0 a w Q hr hq=>h.sem c0 a w Q (hr.addKey (fun e=>h0.1.1 (zeg.2 e)) h0.1.2 h0.2) hq⟩
structure LeftB(B:List Nat)(w w':World)(M M':Nat->Prop)(pt:Nat->Option Nat)(ow:Nat->Option Value)(pt':Nat->Option Nat)(ow':Nat->Option Value):Prop where
 os:w'.os=w.os
 tape:w'.tape=w.tape
 output:w'.output=w.output
 size:w.heap.size<=w'.heap.size
 same:∀b,b<w.heap.size->(∀i,bl pt ow i≠some b)->w'.heap[b]? =w.heap[b]?
 mm:∀b,M b->M' b
 mn:∀b,M' b->M b\/w.heap.size<=b
 lept:∀i b,pt' i=some b->pt i=some b
 leow:∀i h,ow' i=some h->ow i=some h\/(i∈B/\∀b,vbl h=some b->w.heap.size<=b\/∃j,bl pt ow j=some b)
def AnsB(B:List Nat)(w:World)(M:Nat->Prop)(pt:Nat->Option Nat)(ow:Nat->Option Value)(r:AV)(H':Hp)(e:Ending)(w':World):Prop:=
 ∃v M' pt' ow',e=.returned v/\Core M' pt' ow' (fun _=>False) H' w'/\zg5 H' w' M' pt' ow' pt' ow'/\R ⟨zu w' M',pt',ow'⟩ r v/\LeftB B w w' M M' pt ow pt' ow'
def FnRB(P:Program)(f:Nat)(B:List Nat):CT:=fun H A r H'=>
 Ent P f/\∀(w:World)(M:Nat->Prop)(pt:Nat->Option Nat)(ow:Nat->Option Value)(vs:List Value),Core M pt ow (fun _=>False) H w->zg5 H w M pt ow pt ow->Rs ⟨zu w M,pt,ow⟩ A vs->
  Calls P f vs.toArray w (AnsB B w M pt ow r H')
section
variable {P:Program} {c:Ctx} {σ:St} {a:Act} {w:World}
open Classical in
end
def farC:List Nat->Bool
 | []=>true
 |i::l=>q3 1000000 i&&q3 i 1999998&&farC l
def kOk(B:List Nat):List Nat->Bool
 | []=>true
 |i::l=>q3 1000000 i&&q3 i 1999998&&(Nat.blt i 1500000||zg0 i B)&&kOk B l
def zm9:List Blk->Bool
 | []=>true
 |.gst _::_=>false
 | _::l=>zm9 l
theorem zrv:∀ {l:List Nat},farC l=true->∀i∈l,1000000<=i/\i<=1999998
 | [],_,i,hi=>by cases hi
 |j::l,h,i,hi=>by
  simp only[farC,q4]at h;rcases q6.1 hi with rfl|hi
  .simp_all
  .exact zrv h.2 i hi
theorem zph{B:List Nat}:∀ {l:List Nat},kOk B l=true->∀i∈l,(1000000<=i/\i<=1999998)/\(i<1500000\/i∈B)
 | [],_,i,hi=>by cases hi
 |j::l,h,i,hi=>by
  simp only[kOk,q4,qE]at h;rcases q6.1 hi with rfl|hi
  .simp_all[q0,ke,Nat.blt_eq]
  .exact zph h.2 i hi
theorem zm8:∀ {H:Hp},zm9 (zto H)=true->∀i J,hget H i≠ .gst J
 | [],_,i,J,h=>by simp[hget]at h
 |(j,b)::r,hn,i,J,h=>by
  rw[zf]at h;have hr:zm9 (zto r)=true/\∀J,b≠ .gst J:=by
   cases b<;>first|(simp[zto,zm9]at hn;done)|exact⟨by simpa[zto,zm9]using hn,fun J e=>by cases e⟩
  split at h
  .grind
  .exact zm8 hr.1 i J h
def fnCB(T:Tab)(B:List Nat)(c:Code)(n:Nat)(H:Hp)(A:List AV)(H':Hp)(W:St->Prop):Prop:=
 zkm (A++zhn (n-A.length)) fun sl=>zti (zes (qz (ze T c)) H) fun hp=>
  match zd5 (ze T c) (vj A++zde H),zd5 (ze T c) (keys H),farC (keys H),kOk B (keys H'),yg (zto H),ze8 (keys H'),zm9 (zto H')with
  |true,true,true,true,true,true,true=>W ⟨sl,hp⟩
  | _,_,_,_,_,_,_=>False
section
variable {P:Program} {T:Tab}
open Classical in
set_option maxHeartbeats 1000000 in
theorem zfo(hT:TabOK P T){f:Nat}{fn:Func}{code:Code}(hf:P.funcs[f]? =some fn)(hb:fn.body=some code)(hname:(fn.name== "runtime.NumGoroutine")=false)
 {B:List Nat} (ex:List Nat) {H H':Hp} {A:List AV} {r:AV} (h:fnCB T B code fn.ntmps H A H' (SemOK P T fn.results.toList ex r H' code)):FnRB P f B H A r H':=by
 unfold fnCB at h;rw[wc,kr]at h;split at h
 case h_2=>exact h.elim
 rename_i hd1 hd2 hfar hfar' hnf hnod hng;have hk:=h;rw[jd]at hd1 hd2;have hnod:=za9 hnod;rw[zpx]at hnf;refine⟨⟨fn,hf,by rw[hb];rfl,hname⟩,fun w M pt ow vs hcore hcont hargs=>?_⟩
 let c0:Ctx:= {M0:=M,w0:=w,mine:=fun b=>∃i,bl pt ow i=some b,sm:=fun _=>False,pt0:=pt,ow0:=ow}
 have hkout:∀i,kv H i->i∉ze T code:=fun i hi hj=>hd2 i hj (zeg.2 hi)
 have hback:∀i x,hget (zes (qz (ze T code)) H) i=x->x≠ .free ->hget H i=x:=fun i x hx hn=>by
  grind[ze,kp,absurd,qb]
 have hlen:=hargs.length;have hkpt:∀i,(hget H i).isPt =true->kv H i:=fun i hi=>zt fun e=>by rw[e]at hi;cases hi
 have hkow:∀i,(hget H i).isBuf =true->kv H i:=fun i hi=>zt fun e=>by rw[e]at hi;cases hi
 have hg0:Good c0 M pt ow (fun _=>False) (zes (qz (ze T code)) H) w:= {
  os:=rfl,tape:=rfl,output:=rfl,size:=qd _,keep:=fun _ _ _=>rfl,fresh:=hcore.fresh,m0:=fun _ h=>h,m1:=hcore.fresh,mt:=hcore.mt
  gm:=hcore.gm,gd:=hcore.gd,gl:=fun b hb=>hb.elim
  loc:=fun i b hb=>.inr ⟨⟨i,hb⟩,by
   have hk:kv H i:=by
    unfold bl at hb
    cases hq:pt i with
    |some z=>exact hkpt i (hcore.dpt i z hq)
    |none=>
     rw[hq]at hb
     cases hq2:ow i with
     |none=>simp_all
     |some z=>exact hkow i (hcore.dow i z hq2)
   exact(zrv hfar i (zeg.2 hk)).1⟩
  farp:=fun _ _ _ h=>h,farw:=fun _ _ _ h=>.inl h
  inj:=hcore.inj
  dpt:=fun i b hb=>by rw[qb (hkout i (hkpt i (hcore.dpt i b hb)))];exact hcore.dpt i b hb
  dow:=fun i b hb=>by rw[qb (hkout i (hkow i (hcore.dow i b hb)))];exact hcore.dow i b hb
  blk:=fun i=>by
   by_cases hi:i∈ze T code
   .rw[kp hi];trivial
   .rw[qb hi];exact hcore.blk i}
 have hfree:∀i,i∈vj A++zde H->(hget (zes (qz (ze T code)) H) i).isFree =false:=fun i hi=>by
  grind[qb,zec]
 have hrel:Rel c0 ⟨A++zhn (fn.ntmps-A.length),zes (qz (ze T code)) H⟩ {tmps:=vs.toArray++Array.replicate (fn.ntmps-vs.toArray.size) undef,defers:= []} w:=by
  refine⟨M,pt,ow,fun _=>False,hg0,fun pt' ow' hag=>?_,.nil⟩;have hle:∀is:List Nat,(∀i∈is,i∈vj A++zde H)->Env.le ⟨zu w M,pt,ow⟩ ⟨zu w M,pt',ow'⟩ is:=fun is his=>⟨fun _ _ h=>h,fun i hi=>by
   have:=hag i (hfree i (his i hi))
   simp_all⟩
  refine⟨?_,fun i l b cs Ty hl hb hcs=>?_⟩
  .have h1:=hargs.imp A _ (hle _ fun i hi=>by simp[hi]);have h2:=zpy (ρ:=⟨zu w M,pt',ow'⟩) (fn.ntmps-A.length);have:=h1.append h2
   simp_all
  .have hl':=hback i _ hl OC;exact(hcont i l b cs Ty hl' hb hcs).imp _ _ (hle _ fun j hj=>by grind[jg])
 have hfin:∀(σ:St)(a:Act)(w':World),Rel c0 σ a w'->zjk T fn.results.toList ex r H' σ->LeavesInM qF 0 P fn a.tmps (AnsB B w M pt ow r H') a.defers .returning w':=by
  intro σ a w' hr hK;obtain⟨_,_,_,_,_,_,Ds,hDs,_⟩:=id hr;obtain⟨tm,ds⟩:=a;simp only at hDs;subst hDs;refine zcg tm (fun w' hr=>?_) Ds w' hr;unfold zjk at hK;obtain⟨l1,hK,_⟩:=za6 hT hr _ _ hK;obtain⟨σ',hr',hK⟩:=zad hr hK;obtain⟨l,⟨hleA,hleH⟩,vs',hrun,hrs⟩:=za6 hT hr' _ _ hK;obtain⟨M1,pt1,ow1,S1,hg,hs,_⟩:=hr';obtain⟨v,hv,hRv⟩:=zh1 hrun (hrs M1 pt1 ow1 S1 hg hs);refine⟨v,hv,?_⟩;obtain⟨ptN,owN,hgN,hless,hcel⟩:=hg.weaken (zhd hleH);have hlo:∀i,i∈keys H'->1000000<=i/\i<=1999998:=fun i hi=>(zph hfar' i hi).1
  have hex:∀i,i∈keys H'->exI ex i=i:=fun i hi=>qc9 (by grind)
  have hinj:∀i,i∈keys H'->∀j∈keys H',exI ex j=exI ex i->j=i:=fun i hi j hj e=>by simp_all
  have hgetm:∀i,i∈keys H'->hget (zha (exI ex) H') (exI ex i)=(hget H' i).mapI (exI ex):=fun i hi=>zik _ hi (hinj i hi)
  have hkeyH':∀i,hget H' i≠ .dead ->i∈keys H':=fun i hi=>zeg.2 (zt hi)
  let ptF:Nat->Option Nat:=fun i=>if i∈keys H' then ptN (exI ex i)else none
  let owF:Nat->Option Value:=fun i=>if i∈keys H' then owN (exI ex i)else none
  let MF:Nat->Prop:=fun b=>M b\/∃i,i∈keys H'/\bl ptN owN i=some b
  have hF:∀i,i∈keys H'->ptF i=ptN i/\owF i=owN i:=fun i hi=>by grind
  have hF':∀i,i∈keys H'->ptF i=ptN (exI ex i)/\owF i=owN (exI ex i):=fun i hi=>by simp_all
  have hFp:∀i b,ptF i=some b->i∈keys H'/\ptN i=some b:=fun i b hb=>by
   grind
  have hFw:∀i b,owF i=some b->i∈keys H'/\owN i=some b:=fun i b hb=>by
   grind
  have hFb:∀i b,bl ptF owF i=some b->i∈keys H'/\bl ptN owN i=some b:=fun i b hb=>by
   grind[bl]
  have hMF1:∀b,MF b->M1 b:=fun b hb=>by
   rcases hb with h1|⟨i,_,h1⟩
   .exact hgN.m0 b h1
   .exact hgN.mt i b h1
  have hV:∀b o,zu w' M1 b o->zu w' MF b o:=qa fun b o hm hb=>⟨fun h'=>hm (hMF1 b h'),hb⟩
  have hR1:∀(x:AV)(y:Value),R ⟨zu w' M1,ptN,owN⟩ (x.mapI (exI ex)) y->R ⟨zu w' MF,ptF,owF⟩ x y:=fun x y hx=>by
   have h1:=(R.mapI (V:=zu w' M1) (f:=exI ex) (pt:=fun i=>ptN (exI ex i)) (ow:=fun i=>owN (exI ex i)) (pt':=ptN) (ow':=owN) x y fun i _=>⟨rfl,rfl⟩).1 hx;exact h1.imp x y ⟨hV,fun i _=>⟨fun b hb=>by
    simp_all,fun b hb=>by
    simp_all⟩⟩
  have hR2:∀(x:List AV)(y:List Value),Rs ⟨zu w' M1,ptN,owN⟩ (za2 (exI ex) x) y->Rs ⟨zu w' MF,ptF,owF⟩ x y:=fun x y hx=>by
   have h1:=(Rs.mapI (V:=zu w' M1) (f:=exI ex) (pt:=fun i=>ptN (exI ex i)) (ow:=fun i=>owN (exI ex i)) (pt':=ptN) (ow':=owN) x y fun i _=>⟨rfl,rfl⟩).1 hx;exact h1.imp x y ⟨hV,fun i _=>⟨fun b hb=>by
    simp_all,fun b hb=>by
    simp_all⟩⟩
  refine⟨v,MF,ptF,owF,rfl,?_,?_,hR1 r v (R.le _ _ _ hleA (hless _) hRv),?_⟩
  .exact {
    fresh:=fun b hb=>hgN.fresh b (hMF1 b hb)
    mt:=fun i b hb=>by
     grind
    inj:=fun i j b hi hj=>hgN.inj i j b (hFb i b hi).2 (hFb j b hj).2
    gm:=fun b hb=>hb.elim
    gd:=fun i b _ hS=>hS
    dpt:=fun i b hb=>by
     obtain⟨hi,hb'⟩:=hFp i b hb;have:=hgN.dpt _ b hb'
     simp_all[zba]
    dow:=fun i b hb=>by
     obtain⟨hi,hb'⟩:=hFw i b hb;have:=hgN.dow _ b hb'
     simp_all[zah]
    blk:=fun i=>by
     by_cases hi:i∈keys H'
     .have h1:=hgN.blk (exI ex i);rw[hgetm i hi]at h1;have h2:=h1.unren (pt':=ptF) (ow':=owF) (i:=i) (exI ex) (hF' i hi).1 (hF' i hi).2 fun e=>by
       simp_all
      have h3:=h2.mono (w':=w') (V':=zu w' MF) rfl rfl hV (fun x hx=>by
       obtain⟨_,hx'⟩:=hFw i x hx;rw[(hF i hi).1];exact hgN.ptow hx') (fun _ _ _ h=>h) (fun _ _ _ h=>h)
      have h4:=h3.ren (pt':=ptF) (ow':=owF) (S':=fun _=>False) (i:=i) id rfl rfl (fun e=>by
       grind)
      rwa [Blk.mapI_id']at h4
     .have:hget H' i=.dead :=by
       grind
      rw[this];trivial}
  .intro i m b cs Ty hm hb' hcs;obtain⟨hi,hb''⟩:=hFp i b hb';have h1:=hgetm i hi;rw[hm]at h1;simp only[Blk.mapI]at h1;obtain⟨l0,h2,h3,h4⟩:=hcel _ _ h1;rw[hex i hi]at h2 h4;rw[h4]at hb'';exact hR2 m _ (Rs.le _ _ _ h3 (hless _) ((hs pt1 ow1 (Agr.refl _ _ _)).2 _ l0 b cs Ty h2 hb'' hcs))
  .exact {
    os:=hgN.os,tape:=hgN.tape,output:=hgN.output,size:=hgN.size
    same:=fun b hb hn=>hgN.keep b hb fun⟨i,hi⟩=>hn i hi
    mm:=fun b hb=>.inl hb
    mn:=fun b hb=>by
     rcases hb with h1|⟨i,hi,h1⟩
     .exact .inl h1
     .rcases hgN.loc i b h1 with h2|⟨⟨j,h2⟩,_⟩
      .exact .inr h2
      .exact .inl (hcore.mt j b h2)
    lept:=fun i b hb=>by
     obtain⟨hi,hb'⟩:=hFp i b hb;exact hgN.farp i b (hlo i hi).1 hb'
    leow:=fun i x hx=>by
     obtain⟨hi,hx'⟩:=hFw i x hx;rcases hgN.farw i x (hlo i hi).1 hx' with h1|h1
     .exact .inl h1
     .rcases(zph hfar' i hi).2 with h2|h2
      .omega
      .refine .inr ⟨h2,fun b hb=>?_⟩;have hbl:bl ptN owN i=some b:=by
        unfold bl;rw[hgN.ptow hx',hx'];cases x<;>first|exact hb|(simp[vbl]at hb;done)|(rename_i ao _ _;cases ao<;>first|exact hb|(simp[vbl]at hb;done))
       rcases hgN.loc i b hbl with h3|⟨h3,_⟩
       .exact .inl h3
       grind}
 refine callsIn_wide.1 (callsIn_of_wp_marks (n:=0) hf hb trivial (hk.sem c0 _ _ _ hrel fun e σ a w' hr hK=>?_))
 cases e with
 |normal=>exact hfin σ a w' hr hK
 |ret=>exact hfin σ a w' hr hK
 | _=>exact hK.elim
end
structure Tri(P:Program)(c:Code)(σ:St)(K:Exit->St->Prop):Prop where
 run:∀(c0:Ctx)(a:Act)(w:World)(Q:Exit->Act->World->Prop),Rel c0 σ a w->(∀e σ a w,Rel c0 σ a w->K e σ->Q e a w)->c.wpIn qF 0 P Q a w
section
variable {P:Program} {T:Tab}
theorem qeb{x y:Code}{σ:St}{n m:St->Prop}{e:Nat->St->Prop}{r:St->Prop}(h1:Tri P x σ (K3 m e r))(h2:∀G,m G->Tri P y G (K3 n e r)):Tri P (.seq x y) σ (K3 n e r):=by
 refine⟨fun c0 a w Q hr hq=>wpIn_seq (h1.run c0 a w _ hr fun ex G a w hr hk=>?_)⟩
 cases ex with
 |normal=>exact(h2 G hk).run c0 a w Q hr hq
 |exit i=>exact hq _ _ _ _ hr hk
 |ret=>exact hq _ _ _ _ hr hk
 | _=>exact hk.elim
theorem zqg{x:Code}{σ:St}{K K':Exit->St->Prop}(h:Tri P x σ K)(hk:∀e G,K e G->K' e G):Tri P x σ K':=
 ⟨fun c0 a w Q hr hq=>h.run c0 a w Q hr fun e G a w hr h=>hq e G a w hr (hk e G h)⟩
theorem zt6{id:Nat}{x:Code}{σ:St}{n:St->Prop}{e:Nat->St->Prop}{r:St->Prop}
 (h:Tri P x σ (K3 n (fun i σ=>match q2 i id with|true=>n σ|false=>e i σ) r)):Tri P (.block id x) σ (K3 n e r):=by
 refine⟨fun c0 a w Q hr hq=>wpIn_block (h.run c0 a w _ hr fun ex G a w hr hk=>?_)⟩
 cases ex with
 |normal=>exact hq _ _ _ _ hr hk
 |exit i=>
  have hk:(match q2 i id with|true=>n G|false=>e i G):=hk;simp only[Exit.inBlock]
  cases e2:q2 i id with
  |true=>simp only[e2]at hk;rw[Z4 ((zd _ _).1 e2)];exact hq _ _ _ _ hr hk
  |false=>simp only[e2]at hk;rw[Z5 ((zy _ _).1 e2)];exact hq _ _ _ _ hr hk
 |ret=>exact hq _ _ _ _ hr hk
 | _=>exact hk.elim
theorem zza{x:Code}{σ:St}{n:St->Prop}{e:Nat->St->Prop}{r:St->Prop}{X:Type}(σm:X->St)(I:X->Prop)(μ:X->Nat)(x₀:X)(h0:I x₀)(hle:leS σ (σm x₀))(hfr:∀x,I x->zd5 (zg2 (σm x).hp) (σm x).ids =true)
 (h:∀y,I y->Tri P x (σm y) (K3 (fun G=>∃y',I y'/\μ y'<μ y/\leS G (σm y')) e r)):Tri P (.loop x) σ (K3 n e r):=by
 refine⟨fun c0 a w Q hr hq=>?_⟩;refine zet (F:=⟨qF,.inl rfl⟩) (I:=I) (J:=fun y a w=>Rel c0 (σm y) a w) (μ:=μ) h0 (hr.weaken hle (hfr x₀ h0)) fun y a' w' hy hj=>?_
 refine(h y hy).run c0 a' w' _ hj fun ex G a w hr hk=>?_
 cases ex with
 |normal=>
  obtain⟨y',hy',hlt,hle⟩:=hk;exact⟨y',hy',hr.weaken hle (hfr y' hy'),hlt⟩
 |exit i=>exact hq _ _ _ _ hr hk
 |ret=>exact hq _ _ _ _ hr hk
 | _=>exact hk.elim
theorem zlm(hT:TabOK P T){c:Ctx}{ops:Array Oper}{rest:List Oper}{Q:Exit->Act->World->Prop}{K:St->Prop}(hQ:∀σ a w,Rel c σ a w->K σ->wpListIn qF 0 P ops Q rest a w):
 ∀(l:List Oper)(σ:St)(a:Act)(w:World),Rel c σ a w->qcr T (CN P) ops.toList l σ K->wpListIn qF 0 P ops Q (l++rest) a w
 | [],σ,a,w,h,hk=>hQ σ a w h hk
 |o::l,σ,a,w,h,hk=>by
  simp only[qcr,opK1]at hk;rw[q8];refine wpListIn_step fun K' hK'=>?_
  rcases xe h hk with ⟨hw,hk⟩|⟨hw,hk⟩
  .rw[Z4 hw];obtain⟨σ',hk',hwp⟩:=zjw (F:=⟨qF,.inl rfl⟩) hT h hk;exact Oper.wpIn_mono (fun a' w' hr=>hK' _ _ (zlm hT hQ l σ' a' w' hr hk')) (hwp Q)
  .rw[Z5 (by rw[hw];simp)];rw[zaw]at hk;exact⟨fun f _=>(Wf.mk qF (.inl rfl)).ok.fn f,hK' _ _ (zlm hT hQ l _ _ _ (h.skip o) hk)⟩
def qkl:Blk->Bool
 |.dead =>true
 | _=>false
def qeg(hp:Hp)(i j:Nat):Bool:=
 qek [(i,j)]&&(q3 j 999999||q3 1000000 i)&&(q3 i 999999||(q3 1500000 i&&q3 i 1999998))&&qkl (hget hp i)&&(hget hp j).isBuf
theorem Rel.swap{c:Ctx}{sl:List AV}{hp:Hp}{a:Act}{w:World}(h:Rel c ⟨sl,hp⟩ a w){i j:Nat}(hok:qeg hp i j=true):Rel c ⟨za2 (sw [(i,j)]) sl,zha (sw [(i,j)]) hp⟩ a w:=by
 obtain⟨M,pt,ow,S,hg,hs,hd⟩:=h;simp only[qeg,q4,qE]at hok;obtain⟨⟨⟨⟨h1,h2⟩,h3⟩,h4⟩,h5⟩:=hok;have hff:∀x,sw [(i,j)] (sw [(i,j)] x)=x:=fun x=>qeh x h1
 have hhi:∀x,1999999<=x->sw [(i,j)] x=x:=fun x hx=>qej h1 hx
 have hsw:∀x,sw [(i,j)] x=if x=i then j else if x=j then i else x:=fun x=>by
  simp only[sw]
  cases e1:q2 x i with
  |true=>rw[Z4 ((zd _ _).1 e1)]
  |false=>
   rw[Z5 ((zy _ _).1 e1)]
   cases e2:q2 x j with
   |true=>rw[Z4 ((zd _ _).1 e2)]
   |false=>rw[Z5 ((zy _ _).1 e2)]
 have hdead:hget hp i=.dead :=by
  cases e:hget hp i<;>first|rfl|(rw[e]at h4;cases h4)
 have hpi:pt i=none:=hg.ptn (by rw[hdead];rfl);have hoi:ow i=none:=hg.own (by rw[hdead];rfl);have hpj:pt j=none:=hg.ptn (by
  cases e:hget hp j<;>first|rfl|(rw[e]at h5;cases h5))
 have hj1:q3 j 999999=true->j<=999999:=q0;have hc:=hg.toCore.domap (sw [(i,j)]) hff hhi;have hbl:∀x b,bl (fun x=>pt (sw [(i,j)] x)) (fun x=>ow (sw [(i,j)] x)) x=some b->(x=i/\bl pt ow j=some b)\/(x≠i/\x≠j/\bl pt ow x=some b):=fun x b hb=>by
  have hb:bl pt ow (sw [(i,j)] x)=some b:=hb;rw[hsw]at hb;by_cases e1:x=i
  .rw[Z4 e1]at hb;exact .inl ⟨e1,hb⟩
  .rw[Z5 e1]at hb;by_cases e2:x=j
   .rw[Z4 e2]at hb;unfold bl at hb;rw[hpi,hoi]at hb;cases hb
   .rw[Z5 e2]at hb;exact .inr ⟨e1,e2,hb⟩
 refine⟨M,fun x=>pt (sw [(i,j)] x),fun x=>ow (sw [(i,j)] x),S,?_,?_,hd⟩
 .exact {hc with
   os:=hg.os,tape:=hg.tape,output:=hg.output,size:=hg.size,keep:=hg.keep,m0:=hg.m0,m1:=hg.m1,gl:=hg.gl
   loc:=fun x b hb=>by
    rcases hbl x b hb with ⟨rfl,h6⟩|⟨_,_,h6⟩
    .rcases hg.loc j b h6 with h7|⟨h7,h8⟩
     .exact .inl h7
     .rcases h2 with h2|h2
      .have:=q0 h2;omega
      .exact .inr ⟨h7,q0 h2⟩
    .exact hg.loc x b h6
   farp:=fun x b hx hb=>by
    have hb:pt (sw [(i,j)] x)=some b:=hb;rw[hsw]at hb;by_cases e1:x=i
    .rw[Z4 e1,hpj]at hb;cases hb
    .rw[Z5 e1]at hb;by_cases e2:x=j
     .rw[Z4 e2,hpi]at hb;cases hb
     .rw[Z5 e2]at hb;exact hg.farp x b hx hb
   farw:=fun x b hx hb=>by
    have hb:ow (sw [(i,j)] x)=some b:=hb;rw[hsw]at hb;by_cases e1:x=i
    .subst e1;rcases h3 with h3|h3
     .have:=q0 h3;omega
     .exact .inr ⟨q0 h3.1,q0 h3.2⟩
    .rw[Z5 e1]at hb;by_cases e2:x=j
     .rw[Z4 e2,hoi]at hb;cases hb
     .rw[Z5 e2]at hb;exact hg.farw x b hx hb}
 .intro pt3 ow3 hag;have hag4:Agr hp pt (fun x=>pt3 (sw [(i,j)] x)) ow (fun x=>ow3 (sw [(i,j)] x)):=fun x hx=>by
   have:=hag (sw [(i,j)] x) (by
    show(hget (zha (sw [(i,j)]) hp) (sw [(i,j)] x)).isFree =false;rw[jq _ _ hff,zed];exact hx)
   simp only[hff]at this;exact this
  obtain⟨h6,h7⟩:=hs _ _ hag4;refine⟨(Rs.mapI sl _ fun x _=>⟨rfl,rfl⟩).2 h6,fun x l b cs Ty hl hb hcs=>?_⟩;have hl:hget (zha (sw [(i,j)]) hp) x=.cells l:=hl;have hq:=jq (H:=hp) (i:=sw [(i,j)] x) (sw [(i,j)]) (sw [(i,j)]) hff;rw[hff,hl]at hq;obtain⟨m,hm,rfl⟩:=zc9 hq.symm;exact(Rs.mapI m _ fun x _=>⟨rfl,rfl⟩).2 (h7 _ m b cs Ty hm hb hcs)
theorem zg8{res:List ResultVar}{ex:List Nat}{rv:AV}{H':Hp}{c:Code}{sl:List AV}{hp:Hp}(i j:Nat)(hok:qeg hp i j=true)(h:SemOK P T res ex rv H' c ⟨za2 (sw [(i,j)]) sl,zha (sw [(i,j)]) hp⟩):SemOK P T res ex rv H' c ⟨sl,hp⟩:=
 ⟨fun c0 a w Q hr hq=>h.sem c0 a w Q (hr.swap hok) hq⟩
abbrev RM4:=St->(St->Prop)->(Nat->St->Prop)->(St->Prop)->Prop
noncomputable def zo0(P:Program)(T:Tab)(sp:List Nat)(id:Nat)(ops:Array Oper)(draw:Bool):RM4:=fun σ n e r=>match zg0 id sp with
 |true=>Tri P (.region id ops draw) σ (K3 n (fun _ _=>False) (fun _=>False))
 |false=>zu0 T (CN P) id ops draw true σ n e r
def qSeq(_ _:Code)(iha ihb:RM4):RM4:=fun σ n e r=>iha σ (fun σ=>ihb σ n e r) e r
def qfa(c:Operand)(_ _:Code)(iha ihb:RM4):RM4:=fun σ n e r=>match zo σ.sl c with
    |.bool t=> @Bool.rec (fun _=>Prop) (ihb σ n e r) (iha σ n e r) t
    |.ub p q=>(p->iha σ n e r)/\(q->ihb σ n e r)
    | _=>False
def qjm(id:Nat)(_:Code)(ih:RM4):RM4:=fun σ n e r=>ih σ n (fun i σ=>match q2 i id with
 |true=>n σ
 |false=>e i σ) r
def qe9(T:Tab)(c:Code)(ih:RM4):RM4:=fun σ _ e r=>∃(X:Type)(I:X->Prop)(us:X->List (Nat×AV))(hu:X->List (Nat×Blk))(μ:X->Nat)(x₀:X),
 I x₀/\(zgi (jz c) fun ws=>zgi (ze T c) fun ds=>zrt ws ds (us x₀) (hu x₀) σ (fun G=>leS σ G))/\
 ∀x,I x->zgi (jz c) fun ws=>zgi (ze T c) fun ds=>zrt ws ds (us x) (hu x) σ fun G=>zd5 (zg2 G.hp) G.ids=true/\
  ih G (fun σ'=>∃x',I x'/\μ x'<μ x/\zrt ws ds (us x') (hu x') σ fun τ'=>leS σ' τ') e r
def qNo:RM4:=fun _ _ _ _=>False
noncomputable def ztm(P:Program)(T:Tab)(sp:List Nat)(c:Code):RM4:=
 @Code.rec (fun _=>RM4) (fun σ n _ _=>n σ) (zo0 P T sp) qSeq qfa qjm (qe9 T) (fun _ _ _ _ _ _=>qNo) (fun id σ _ e _=>e id σ) (fun _ _=>qNo) (fun _=>qNo) (fun _=>qNo) (fun σ _ _ r=>r σ) (fun _=>qNo) c
theorem zxs(hT:TabOK P T)(hmx:P.follows .mixedOrders =true)(sp:List Nat):∀(c:Code)(σ:St)(n:St->Prop)(e:Nat->St->Prop)(r:St->Prop),ztm P T sp c σ n e r->Tri P c σ (K3 n e r):=by
 have hw:∀(c:Code)(σ:St)(n:St->Prop)(e:Nat->St->Prop)(r:St->Prop),za3 T (CN P) c true σ n e r->Tri P c σ (K3 n e r):=fun c σ n e r h=>by
  rw[zdl,zdk]at h;exact⟨fun c0 a w Q hr hq=>qj hT hmx c true ⟨qF,.inl rfl⟩ c0 _ _ _ a w (fun _=>rfl) hr h hq⟩
 intro c
 induction c with
 |skip=>intro σ n e r h;exact hw .skip σ n e r h
 |region id ops draw=>
  intro σ n e r h;have h:zo0 P T sp id ops draw σ n e r:=h;unfold zo0 at h;split at h
  .exact zqg h fun ex G hk=>by
    cases ex with
    |normal=>exact hk
    | _=>exact hk.elim
  .exact hw (.region id ops draw) σ n e r h
 |seq a b iha ihb=>
  intro σ n e r h;exact qeb (iha σ (fun σ=>ztm P T sp b σ n e r) e r h) fun G hτ=>ihb G n e r hτ
 |cond c a b iha ihb=>
  intro σ n e r h;have h:qfa c a b (ztm P T sp a) (ztm P T sp b) σ n e r:=h;unfold qfa at h;refine⟨fun c0 ac w Q hr hq=>?_⟩;obtain⟨_,_,_,_,_,_,hrs⟩:=hr.own;have hb:=zc hrs c;split at h
  .rename_i t htt;rw[htt]at hb;simp only[R]at hb;refine wpIn_cond hb ?_
   cases t with
   |true=>exact(iha σ n e r h).run c0 ac w Q hr hq
   |false=>exact(ihb σ n e r h).run c0 ac w Q hr hq
  .rename_i p q htt;rw[htt]at hb;simp only[R]at hb;obtain⟨t,hb,h1,h2⟩:=hb;refine wpIn_cond hb ?_
   cases t with
   |true=>exact(iha σ n e r (h.1 (h1 rfl))).run c0 ac w Q hr hq
   |false=>exact(ihb σ n e r (h.2 (h2 rfl))).run c0 ac w Q hr hq
  .exact h.elim
 |block id c ih=>
  intro σ n e r h;exact zt6 (ih σ n _ r h)
 |loop c ih=>
  intro σ n e r h;have h:qe9 T c (ztm P T sp c) σ n e r:=h;unfold qe9 at h;obtain⟨X,I,us,hu,μ,x₀,h0,hin,zkg⟩:=h;simp only[zl6]at hin zkg;rw[zdf]at hin;have hr0:=fun x hx=>(zdf _ _ _ _ _ _).1 (zkg x hx)
  refine zza (fun y=>gen (jz c) (ze T c) (us y) (hu y) σ) I μ x₀ h0 hin (fun x hx=>(hr0 x hx).1) fun y hy=>?_
  refine zqg (ih _ _ e r (hr0 y hy).2) fun ex G hk=>?_
  cases ex with
  |normal=>
   obtain⟨y',hy',hlt,hle⟩:=hk;rw[zdf]at hle;exact⟨y',hy',hlt,hle⟩
  |exit i=>exact hk
  |ret=>exact hk
  | _=>exact hk.elim
 |exit id=>intro σ n e r h;exact hw (.exit id) σ n e r h
 |ret=>intro σ n e r h;exact hw .ret σ n e r h
 |rangeFunc f ps a b _ _=>intro σ n e r h;exact h.elim
 |scope b _=>intro σ n e r h;exact h.elim
 |label l=>intro σ n e r h;exact h.elim
 |goto l=>intro σ n e r h;exact h.elim
 |refuse w=>intro σ n e r h;exact h.elim
theorem ze1(hT:TabOK P T)(hmx:P.follows .mixedOrders =true)(sp:List Nat){res:List ResultVar}{ex:List Nat}{r:AV}{H':Hp}{c:Code}{sl:List AV}{hp:Hp}
 (h:zkm sl fun sl=>zti hp fun hp=>ztm P T sp c ⟨sl,hp⟩ (fun σ=>zjk T res ex r H' σ) (fun _ _=>False) (fun σ=>zjk T res ex r H' σ)):SemOK P T res ex r H' c ⟨sl,hp⟩:=by
 rw[wc,kr]at h;have:=zxs hT hmx sp c _ _ _ _ h;rw[qc7]at this;exact⟨fun c0 a w Q hr hq=>this.run c0 a w Q hr hq⟩
end
section
variable {P:Program} {T:Tab}
end
theorem zdv.bool{V:uy}{u:Bool}{v:Value}(h:zdv V .bool u v):v=.bool u:=by
 obtain⟨vs,h1,h2,h3⟩:=h
 match vs,h1 with
 | [y],_=>
   have:=h3 0 (.bool u) y rfl rfl;cases this
   exact h2
section
variable {P:Program}
end
section
variable {P:Program} {T:Tab}
def litK(T:Tab)(t m:Nat)(parts:Array (Nat×Operand))(q d:Nat)(σ:St)(K:St->Prop):Prop:=match σ with
 |⟨sl,hp⟩=>tgK T t fun i=>match i with
  |⟨3,_,_,e,esz,_,_,_,_,_,_⟩=>tgK T e fun j=>match j with
   |⟨_,sz,_,_,_,_,some k,_,_,_,_⟩=>match hget hp d,q3 d 999999,q2 esz k.size,q2 sz k.size,zif 0 parts.toList,q2 parts.toList.length (m+1),q3 ((m+1)*k.size) 1000 with
    |.free,true,true,true,true,true,true=>ze4 k (zjf (zo sl) parts.toList) fun xs=>zzt sl q (.own d) fun sl'=>zbd hp [d] [.buf e k xs] fun hp'=>K ⟨sl',hp'⟩
    | _,_,_,_,_,_,_=>False
   | _=>False
  | _=>False
theorem zta(hT:TabOK P T){c:Ctx}{σ:St}{a:Act}{w:World}(h:Rel c σ a w){o:Oper}{t m:Nat}{parts:Array (Nat×Operand)}(ho:o.op=.buildSlice t (m+1) parts){q d:Nat}(hq:o.dst=some q){K:St->Prop}(hk:litK T t m parts q d σ K):
 ∃σ',K σ'/\∀Q,o.wpIn qF 0 P a w (Rel c σ') Q:=by
 obtain⟨sl,hp⟩:=σ;have he:litK T t m parts q d ⟨sl,hp⟩ K:=hk;simp only[litK]at he;obtain⟨i,hmem,he⟩:=qx _ _ _ he;have hi:=hT.ti _ _ hmem;split at he
 .rename_i sz fs e esz len k0 ik z by_ eq;obtain⟨hu,inf,hinf,hsz⟩:=hi.slice rfl;simp only at hu hinf hsz;obtain⟨j,hmj,he⟩:=qx _ _ _ he;have hj:=hT.ti _ _ hmj;obtain⟨inf',zv,hinf',hq1,hq2,hz,hq3,hq4⟩:=hj.inf;rw[hinf]at hinf';cases hinf'
  split at he
  .rename_i kk _ _ _ _;split at he
   .rename_i hfree hd9 he1 he2 ho1 ho2 ho3;have he1:=(zd _ _).1 he1;have hd9:=q0 hd9;have ho2:=(zd _ _).1 ho2;have ho3:=q0 ho3;obtain⟨xs,hE,hxl,hx⟩:=zd9 _ he;rw[zcz,zdd]at hE;obtain⟨M0,pt0,ow0,S0,hg0,hs0,hr⟩:=h.own;have hpos:=Elt.size_pos kk
    let vparts:List (Nat×Value):=parts.toList.map fun x=>(x.1,a.eval x.2)
    have hcell:∀(j:Nat)(p:Nat×Operand),parts.toList[j]? =some p->∀ρ,Rs ρ sl a.tmps.toList->∃x,xs[j]? =some x/\uk ρ.V (kk.cells x) (a.eval p.2).cells.toList :=by
     intro j p hp ρ hρ;have hjl:j<parts.toList.length:=(q1.1 hp).1;have hjx:j<xs.length:=by rw[hxl,zac];exact hjl
     have hmv:(zjf (zo sl) parts.toList)[j]? =some (zo sl p.2):=by
      have hjm:j<(zjf (zo sl) parts.toList).length :=by rw[zac];exact hjl
      have h0:(zjf (zo sl) parts.toList)[j]? =some (zjf (zo sl) parts.toList)[j]:=by simp[hjm]
      obtain⟨p',hp',hpe⟩:=zlv j h0;rw[hp]at hp';cases hp'
      rw[h0,hpe]
     exact⟨xs[j],by simp[hjx],hx j _ _ hmv (by simp[hjx]) ρ _ (zc hρ p.2)⟩
    have hvp:∀(j:Nat)(p:Nat×Value),vparts[j]? =some p->p.1=0+j/\p.2.cells.size=kk.size:=by
     intro j p hp;simp only[vparts,qB]at hp
     cases hq:parts.toList[j]? with
     |none=>rw[hq]at hp;simp at hp
     |some q=>
      rw[hq]at hp;simp at hp;subst hp;obtain⟨x,_,hlf⟩:=hcell j q hq _ hr;refine⟨zeh ho1 j q hq,?_⟩;have:=hlf.1;rw[qu]at this;simpa using this.symm
    have hlenp:vparts.length=m+1:=by simp only[vparts,List.length_map];exact ho2
    obtain⟨r,hfill,hrl⟩:=zei kk.size vparts 0 ((Array.range ((m+1)*kk.size)).map (zv.cells[· % zv.cells.size]!)) hvp (by simp[hlenp]);simp only[Nat.zero_mul,List.take_zero,qD]at hrl;have hrl':r.toList=(vparts.map fun p=>p.2.cells.toList).flatten :=by rw[hrl,List.flatMap_def]
    have hall:∀p∈vparts.map (fun p=>p.2.cells.toList),p.length=kk.size:=by
     intro p hp;obtain⟨q,hq,rfl⟩:=List.mem_map.1 hp;obtain⟨j,hj⟩:=List.getElem?_of_mem hq;simpa using(hvp j q hj).2
    have hrsz:r.size=(m+1)*kk.size:=by
     have hl:∀(L:List (List Value)),(∀p∈L,p.length=kk.size)->L.flatten.length=L.length*kk.size:=by
      intro L
      induction L with
      |nil=>simp
      |cons p L ih=>intro h;simp[ih (fun p hp=>h p (by simp[hp])),h p OC,Nat.succ_mul];omega
     have:=hl _ hall;rw[<-hrl']at this;simpa[hlenp]using this
    have hrun:(execOp a.eval o).run P w=.ok (.value (.slice (some ⟨w.heap.size,0,none⟩) (m+1) (m+1))) (w.alloc (.cells r e)):=by
     have hmap:(parts.map fun(x:Nat×Operand)=>(x.1,a.eval x.2)).toList =vparts:=by simp[vparts]
     have:=run_buildSlice (P:=P) w t e (m+1) (parts.map fun(x:Nat×Operand)=>(x.1,a.eval x.2)) r inf zv hu hinf hz (by rw[hsz,he1];omega) (by rw[hsz,he1];exact Nat.ne_of_gt (Nat.mul_pos (Nat.succ_pos m) hpos))
      (by rw[hmap,hsz,he1];exact hfill)
     simp only[execOp,ho,Sem.run_bind,this,Result.andThen_ok,Sem.run_pure]
    have hxn:xs.length=m+1:=by rw[hxl,zac];exact ho2
    refine⟨_,hE,fun Q=>?_⟩;refine zak (F:=⟨qF,.inl rfl⟩) hrun ?_;refine Rel.buf (σ:=⟨sl,hp⟩) (o:=o) h (w':=w.alloc (.cells r e)) (d:=d) hfree (.inl hd9) none OC e kk xs _ rfl rfl rfl OC ⟨sl.set q (.own d),qh hp [d] [.buf e kk xs]⟩ (by simp[qh,zfj]) (by simp[hq]) fun M pt ow S hg hs=>?_
    have hr:=(hs pt ow (Agr.refl _ _ _)).1;have hnew:(w.alloc (.cells r e)).heap[w.heap.size]? =some (.cells r e (0,0)):=by
     show(w.heap.push _)[w.heap.size]? =_;simp
    refine⟨fun b' hb' _=>(Ext.alloc w _).block b' hb',fun M' hM'=>?_,_,_,_,rfl,fun p hp=>?_⟩
    .have hV:∀b o,zu w M b o->zu (w.alloc (.cells r e)) M' b o:=
      qa fun b o hm hb=>⟨fun h'=>(hM' b h').elim hm fun h=>by have:=zj hb;omega,(Ext.alloc w _).get hb⟩
     refine .inr ⟨w.heap.size,m+1,r,by rw[hxn],hnew,O,?_,hrsz,fun j x hx q u hu=>?_⟩
     .unfold maxLen;have:m+1<=1000:=qA (Nat.le_mul_of_pos_right _ hpos) ho3;omega
     .have hjl:j<parts.toList.length:=by
       have:=(q1.1 hx).1;rw[hxl,zac]at this;exact this
      obtain⟨x',hx',hlf⟩:=hcell j parts.toList[j] (by simp[hjl]) _ hr;rw[hx]at hx';cases hx'
      have hq:q<kk.size:=by have:=(q1.1 hu).1;rwa [qu]at this
      have hql:q<(a.eval parts.toList[j].2).cells.toList.length :=by rw[<-hlf.1,qu];exact hq
      refine⟨(a.eval parts.toList[j].2).cells.toList[q],?_,((hlf.2 q u _ hu (q5 hql)).mono hV)⟩;have hpj:(vparts.map fun p=>p.2.cells.toList)[j]? =some (a.eval parts.toList[j].2).cells.toList :=by
       simp only[vparts,qB,q5 hjl,Option.map_some]
      have:=zl9 _ j q _ hall hpj hq;rw[<-hrl']at this;have e2:r[j*kk.size+q]? =r.toList[j*kk.size+q]? :=OC;rw[e2,this];exact q5 hql
    .simp at hp;subst hp;exact⟨.inr (qd _),OC⟩
   .exact he.elim
  .exact he.elim
 .exact he.elim
noncomputable def qih(P:Program)(T:Tab)(n d:Nat)(c:Code)(σ:St)(N:St->Prop):Prop:=match c with
 |.region _ ops false=>match ops.toList[n]? with
   |some o=>match o.guard,o.dst,o.op with
    |none,some q,.buildSlice t (m+1) parts=>qh0 T (CN P) ops.toList (ops.toList.take n) σ fun σ=>litK T t m parts q d σ fun σ=>qh0 T (CN P) ops.toList (ops.toList.drop (n+1)) σ N
    | _,_,_=>False
   |none=>False
 | _=>False
theorem qec(hT:TabOK P T)(n d:Nat){c:Code}{sl:List AV}{hp:Hp}{N:St->Prop}{e:Nat->St->Prop}{r:St->Prop}
 (h:zkm sl fun sl=>zti hp fun hp=>qih P T n d c ⟨sl,hp⟩ N):Tri P c ⟨sl,hp⟩ (K3 N e r):=by
 rw[wc,kr]at h;unfold qih at h;split at h
 .rename_i id ops;split at h
  .rename_i o ho;split at h
   .rename_i q t m parts hg hq hop;have hsplit:ops.toList=ops.toList.take n++o::ops.toList.drop (n+1):=by
     have h1:=(q1.1 ho).2;rw[<-h1,List.getElem_cons_drop,List.take_append_drop]
    simp only[zvy]at h;refine⟨fun c0 a w Q hr hqq=>wpIn_region_list ?_⟩;rw[hsplit];refine zlm hT (fun σ a w hr hk=>?_) _ _ a w hr h;obtain⟨σ',hk',hwp⟩:=zta hT hr hop hq hk;refine wpListIn_step fun K' hK'=>?_
    rcases xe hr (ops:=ops) (run:=fun _=>True) (skip:=fun _=>False) (o:=o) (by unfold zcl;rw[hg];trivial)with ⟨hw,_⟩|⟨_,hk⟩
    .rw[Z4 hw];refine Oper.wpIn_mono (fun a' w' hr=>hK' _ _ ?_) (hwp Q);exact zc4 (F:=⟨qF,.inl rfl⟩) hT (fun σ a w hr hk=>hqq _ _ _ _ hr hk) _ σ' a' w' hr hk'
    .exact hk.elim
   .exact h.elim
  .exact h.elim
 .exact h.elim
end
theorem zxq{M:Nat->Prop}{pt:Nat->Option Nat}{ow:Nat->Option Value}{S:Nat->Prop}{H:Hp}{w:World}(hg:zm9 (zto H)=true)(h:Core M pt ow S H w):Core M pt ow (fun _=>False) H w:= {
 fresh:=h.fresh,mt:=h.mt,inj:=h.inj,gm:=fun b hb=>hb.elim,gd:=fun i b _ hb=>hb,dpt:=h.dpt,dow:=h.dow
 blk:=fun i=>by
  have h1:=h.blk i;have h2:=zm8 hg i
  revert h1 h2
  generalize hget H i=b;intro h1 h2
  cases b with
  |gst J=>exact absurd rfl (h2 J)
  |free=>trivial
  |dead=>trivial
  |cells l=>exact h1
  |buf e k xs=>exact h1
  |map kk vk m=>exact h1}
theorem zdh{P:Program}{f:Nat}{H H':Hp}{A:List AV}{r:AV}(hg:zm9 (zto H)=true)(h:FnRB P f [] H A r H'):zmk P f H A r H':=by
 refine⟨h.1,fun w M pt ow S vs hcore hcont hargs=>(h.2 w M pt ow vs (zxq hg hcore) hcont hargs).mono ?_⟩;rintro e w' ⟨v,M',pt',ow',he,hc,hk,hr,hL⟩;exact⟨v,M',pt',ow',fun _=>False,he,hc,hk,hr,hL.os,hL.tape,hL.output,hL.size,fun b hb hn _=>hL.same b hb hn,hL.mm,hL.mn,fun b hb=>hb.elim,
  fun i b hb=>.inl (hL.lept i b hb),fun i x hx=>(hL.leow i x hx).elim .inl fun h=>by cases h.1⟩
