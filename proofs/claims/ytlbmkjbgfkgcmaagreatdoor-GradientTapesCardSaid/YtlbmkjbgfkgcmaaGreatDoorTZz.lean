/- A walk in parts: the body is cut behind some of its statements; each part is carried out by itself, from a state that says no more than the rest wants. -/
import Derived.Test.YtlbmkjbgfkgcmaaGreatDoorTSxY
set_option linter.all false
open Bool renaming and_eq_true->q1,or_eq_true->q3,false_eq_true->qA,not_eq_true'->qC
open Nat renaming le_of_ble_eq_true->q0,beq->q2,ble->q4,lt_or_ge->qB,le_refl->qD,blt_eq->qE
open Go.Fence renaming wide->qF
open Go.Instr renaming findNow->qI,checkKey->qK,findKey->qL,keyThatStays->qM,sameBits->qN,sameNow->qO
open Go.Result renaming andThen_ok->qG
open Go.Sem renaming run_bind->qH,run_pure->qJ
namespace Go.Sx
open Go
def Fin(T:Tab)(res:List ResultVar)(ex:List Nat)(r:AV)(H':Hp):Exit->St->Prop:=fun e G=>match e with
 |.normal =>ze3 T res ex r H' G
 |.ret =>ze3 T res ex r H' G
 | _=>False
structure SemOK(P:Program)(T:Tab)(res:List ResultVar)(ex:List Nat)(r:AV)(H':Hp)(c:Code)(G:St):Prop where
 sem:∀(c0:Ctx)(a:Act)(w:World)(Q:Exit->Act->World->Prop),Rel c0 G a w->(∀e G a w,Rel c0 G a w->Fin T res ex r H' e G->Q e a w)->c.wpIn qF 0 P Q a w
def fnC(T:Tab)(ex:List Nat)(c:Code)(n:Nat)(H:Hp)(A:List AV)(H':Hp)(W:St->Prop):Prop:=
 zkd (A++uo (n-A.length)) fun sl=>ztx (zhx (wl (ze T c)) H) fun hp=>
  match zde (ze T c) (wk A++zc4 H),zde (ze T c) (keys H),far 0 (keys H),far ex.length (keys H'),yf (zqv H),zdy (keys H'),qc1 ex&&zdy ex with
  |true,true,true,true,true,true,true=>W ⟨sl,hp⟩
  | _,_,_,_,_,_,_=>False
abbrev RM3:=Bool->St->(St->Prop)->(Nat->St->Prop)->(St->Prop)->Prop
def K3(n:St->Prop)(e:Nat->St->Prop)(r:St->Prop):Exit->St->Prop:=fun x G=>match x with
 |.normal =>n G
 |.exit i=>e i G
 |.ret =>r G
 | _=>False
def sSkip:RM3:=fun _ G n _ _=>n G
noncomputable def zsb(T:Tab)(C:Con)(_:Nat)(ops:Array Oper)(draw:Bool):RM3:=fun _ G n _ _=> @Bool.rec (fun _=>Prop)
 (qcv T C ops.toList ops.toList G fun G=>xk (zvh ops.toList) G n)
 (opsS T C ops.toList ops.toList G fun fps G=>zxb 0 ops.toList fps=true/\Region.lexB .any ops=true/\xk (zvh ops.toList) G n) draw
def sSeq(_ _:Code)(iha ihb:RM3):RM3:=fun top G n e r=>iha top G (fun G=>ihb top G n e r) e r
def zz9(c:Operand)(_ _:Code)(iha ihb:RM3):RM3:=fun top G n e r=>match zm G.sl c with
    |.bool t=> @Bool.rec (fun _=>Prop) (ihb top G n e r) (iha top G n e r) t
    |.ub p q=>(p->iha top G n e r)/\(q->ihb top G n e r)
    | _=>False
def qdx(id:Nat)(_:Code)(ih:RM3):RM3:=fun top G n e r=>ih top G n (fun i G=>match q2 i id with
 |true=>n G
 |false=>e i G) r
def zz8(T:Tab)(c:Code)(ih:RM3):RM3:=fun top G _ e r=>∃(X:Type)(I:X->Prop)(us:X->List (Nat×AV))(hu:X->List (Nat×Blk))(μ:X->Nat)(x₀:X),
 I x₀/\(zfj (jn c) fun ws=>zfj (ze T c) fun ds=>zpf ws ds (us x₀) (hu x₀) G (fun U=>leS G U))/\
 ∀x,I x->zfj (jn c) fun ws=>zfj (ze T c) fun ds=>zpf ws ds (us x) (hu x) G fun U=>zde (zeh U.hp) U.ids=true/\
  ih top U (fun σ'=>∃x',I x'/\μ x'<μ x/\zpf ws ds (us x') (hu x') G fun τ'=>leS σ' τ') e r
def zsc(T:Tab)(C:Con)(f:Operand)(ps:Array Tmp)(asg body:Code)(iha ihb:RM3):RM3:=fun top G n e r=>match top,zm G.sl f with
    |true,.fn g caps=>∃(is:List Nat)(X Y:Type)(hb:X->List Blk)(live:X->Bool)(pend:X->Code)(args:Y->List AV)(next:X->Y->X)(x₀ xE:X)(rv:AV)(ib:List Blk),
      qj G.hp is=hb x₀/\live x₀=true/\rfOk T G.hp g is caps ib=true/\zde (ze T asg++ze T body) (zfe is)=true/\(∀x,za2 (hb x)=true/\zck is (hb x)=true)/\(∀y,qap (wk (args y))=true)/\
      (∀(l:Nat)(J:X->GJ),(∀x y,live x=true->C.cb l [(qi,.gst (J x))] (args y) (.bool (live (next x y))) [(qi,.gst (J (next x y)))])->
        C.fn g ((qi,.gst (J x₀))::wh (nub (wk caps)) (qj G.hp (nub (wk caps)))) (.cb l::caps) rv ((qi,.gst (J xE))::wh (nub (wk caps)) ib))/\
      (∀x y,live x=true->zmx ps.toList (args y) (zkr is G.sl) fun sl=>
        iha false ⟨sl,zhx (wl (ze T asg++ze T body)) (wh (zfe is) (hb x))⟩ (fun U=>
         ihb false U (fun U=>live (next x y)=true/\zqs is (hb (next x y)) U) (fun id U=>live (next x y)=false/\pend (next x y)=.exit id/\zqs is (hb (next x y)) U)
          (fun U=>live (next x y)=false/\pend (next x y)=.ret /\zqs is (hb (next x y)) U)) (fun _ _=>False) (fun _=>False))/\
      (match G with
        |⟨sl,hp⟩=>zbb hp is (hb xE) fun hp=>zbb hp (nub (wk caps)) ib fun hp=> @Bool.rec (fun _=>Prop)
          (match pend xE with
            |.exit id=>e id ⟨sl,hp⟩
            |.ret =>r ⟨sl,hp⟩
            | _=>False)
          (n ⟨sl,hp⟩) (live xE))
    | _,_=>False
def sExit(id:Nat):RM3:=fun _ G _ e _=>e id G
def sRet:RM3:=fun _ G _ _ r=>r G
def sNo:RM3:=fun _ _ _ _ _=>False
noncomputable def zau(T:Tab)(C:Con)(c:Code):RM3:=
 @Code.rec (fun _=>RM3) sSkip (zsb T C) sSeq zz9 qdx (zz8 T) (zsc T C) sExit (fun _ _=>sNo) (fun _=>sNo) (fun _=>sNo) sRet (fun _=>sNo) c
theorem zkl(T:Tab)(C:Con):∀(c:Code)(top:Bool)(G:St)(n:St->Prop)(e:Nat->St->Prop)(r:St->Prop),zau T C c top G n e r=za9 T C c top G (K3 n e r):=by
 intro c
 induction c with
 |skip=>intro top G n e r;rfl
 |region id ops draw=>intro top G n e r;cases draw<;>rfl
 |seq a b iha ihb=>
  intro top G n e r;show zau T C a top G (fun G=>zau T C b top G n e r) e r=za9 T C a top G (fun x G=>match x with
   |.normal =>za9 T C b top G (K3 n e r)
   |.exit i=>K3 n e r (.exit i) G
   |.ret =>K3 n e r .ret G
   | _=>False)
  have hk:K3 (fun G=>zau T C b top G n e r) e r=fun x G=>match x with
   |.normal =>za9 T C b top G (K3 n e r)
   |.exit i=>K3 n e r (.exit i) G
   |.ret =>K3 n e r .ret G
   | _=>False:=by
   funext x G
   cases x<;>first|rfl|exact ihb _ _ _ _ _
  rw[iha,hk]
 |cond c a b iha ihb=>
  intro top G n e r;show zz9 c a b (zau T C a) (zau T C b) top G n e r=zsm c a b (za9 T C a) (za9 T C b) top G (K3 n e r);simp only[zz9,zsm,iha,ihb];rfl
 |block id c ih=>
  intro top G n e r;show zau T C c top G n (fun i G=>match q2 i id with|true=>n G|false=>e i G) r=za9 T C c top G (fun x G=>match x with
   |.normal =>K3 n e r .normal G
   |.exit i=>match q2 i id with
     |true=>K3 n e r .normal G
     |false=>K3 n e r (.exit i) G
   |.ret =>K3 n e r .ret G
   | _=>False)
  have hk:K3 n (fun i G=>match q2 i id with|true=>n G|false=>e i G) r=fun x G=>match x with
   |.normal =>K3 n e r .normal G
   |.exit i=>match q2 i id with
     |true=>K3 n e r .normal G
     |false=>K3 n e r (.exit i) G
   |.ret =>K3 n e r .ret G
   | _=>False:=by funext x G;cases x<;>rfl
  rw[ih,hk]
 |loop c ih=>
  intro top G n e r;show zz8 T c (zau T C c) top G n e r=zsj T c (za9 T C c) top G (K3 n e r);simp only[zz8,zsj,ih,zkb];have hk:∀(A:St->Prop),K3 A e r=fun x G=>match x with
   |.normal =>A G
   |.exit i=>(match Exit.exit i with|.normal =>n G|.exit i=>e i G|.ret =>r G| _=>False)
   |.ret =>(match Exit.ret with|.normal =>n G|.exit i=>e i G|.ret =>r G| _=>False)
   | _=>False:=fun A=>by funext x G;cases x<;>rfl
  simp only[hk];rfl
 |rangeFunc f ps a b iha ihb=>
  intro top G n e r;show zsc T C f ps a b (zau T C a) (zau T C b) top G n e r=zk5 T C f ps a b (za9 T C a) (za9 T C b) top G (K3 n e r);simp only[zsc,zk5,iha,ihb];have hk:∀(A B:St->Prop)(E:Nat->St->Prop),K3 A E B=fun x G=>match x with
   |.normal =>A G
   |.exit i=>E i G
   |.ret =>B G
   | _=>False:=fun A B E=>by funext x G;cases x<;>rfl
  have hk2:∀(A:St->Prop),K3 A (fun _ _=>False) (fun _=>False)=fun x G=>match x with
   |.normal =>A G
   | _=>False:=fun A=>by funext x G;cases x<;>rfl
  cases top with
  |false=>rfl
  |true=>simp only[hk2];simp only[hk];rfl
 |exit id=>intro top G n e r;rfl
 |scope b ih=>intro top G n e r;rfl
 |label l=>intro top G n e r;rfl
 |goto l=>intro top G n e r;rfl
 |ret=>intro top G n e r;rfl
 |refuse w=>intro top G n e r;rfl
def zh4:Nat->Code->Code
 |0,c=>c
 |n+1,.seq _ y=>zh4 n y
 | _+1,c=>c
def zrj:Nat->Code->Code
 |0,_=>.skip
 |n+1,.seq x y=>.seq x (zrj n y)
 | _+1,_=>.refuse ""
def fcS:Code->(Code->Prop)->Prop
 |.seq a b,k=>fcS b fun b=>k (.seq a b)
 |c,k=>k c
theorem qbg:∀(c:Code)(k:Code->Prop),fcS c k<->k c:=by
 intro c
 induction c with
 |seq a b _ ihb=>intro k;show fcS b _<->_;rw[ihb]
 | _=>intro k;exact Iff.rfl
section
variable {P:Program} {T:Tab}
theorem zmd(hT:TabOK P T)(hmx:P.follows .mixedOrders =true){c:Ctx}{K:Exit->St->Prop}{Q:Exit->Act->World->Prop}:∀(n:Nat)(code:Code)(G:St)(a:Act)(w:World),
 Rel c G a w->ji T (CN P) true (zrj n code) G K->(∀G a w,Rel c G a w->K .normal G->(zh4 n code).wpIn qF 0 P Q a w)->(∀e G a w,Rel c G a w->e≠ .normal ->K e G->Q e a w)->code.wpIn qF 0 P Q a w
 |0,code,G,a,w,hr,h,hn,_=>hn G a w hr (by simpa only[zrj,ji]using h)
 |n+1,code,G,a,w,hr,h,hn,hq=>by
  cases code with
  |seq x y=>
   simp only[zrj,ji]at h;refine wpIn_seq (qw hT hmx x true ⟨qF,.inl rfl⟩ c G _ _ a w (fun _=>rfl) hr h fun e σ' a' w' hr' hk'=>?_)
   cases e with
   |normal=>exact zmd hT hmx n y σ' a' w' hr' hk' hn hq
   |exit i=>exact hq _ _ _ _ hr' OC hk'
   |ret=>exact hq _ _ _ _ hr' OC hk'
   | _=>exact hk'.elim
  | _=>exact h.elim
theorem zyw(T:Tab)(res:List ResultVar)(ex:List Nat)(r:AV)(H':Hp):K3 (fun G=>ze3 T res ex r H' G) (fun _ _=>False) (fun G=>ze3 T res ex r H' G)=Fin T res ex r H':=by
 funext x G;cases x<;>rfl
theorem ww(hT:TabOK P T)(hmx:P.follows .mixedOrders =true){res:List ResultVar}{ex:List Nat}{r:AV}{H':Hp}{c:Code}{sl:List AV}{hp:Hp}
 (h:zkd sl fun sl=>ztx hp fun hp=>zau T (CN P) c true ⟨sl,hp⟩ (fun G=>ze3 T res ex r H' G) (fun _ _=>False) (fun G=>ze3 T res ex r H' G)):SemOK P T res ex r H' c ⟨sl,hp⟩:=by
 rw[vf,um,zkl,zkk,zyw]at h;refine⟨fun c0 a w Q hr hq=>?_⟩;exact qw hT hmx c true ⟨qF,.inl rfl⟩ c0 _ _ _ a w (fun _=>rfl) hr h hq
theorem jm(hT:TabOK P T)(hmx:P.follows .mixedOrders =true){res:List ResultVar}{ex:List Nat}{r:AV}{H':Hp}{c:Code}{sl:List AV}{hp:Hp}(n:Nat){X:Type}(σm:X->St)
 (hfr:∀x,zde (zeh (σm x).hp) (σm x).ids =true)
 (h1:zkd sl fun sl=>ztx hp fun hp=>fcS (zrj n c) fun pc=>zau T (CN P) pc true ⟨sl,hp⟩ (fun G=>∃x,leS G (σm x)) (fun _ _=>False) (fun G=>ze3 T res ex r H' G))
 (h2:∀x,SemOK P T res ex r H' (zh4 n c) (σm x)):SemOK P T res ex r H' c ⟨sl,hp⟩:=by
 rw[vf,um,qbg,zkl,zkk]at h1;refine⟨fun c0 a w Q hr hq=>?_⟩;refine zmd hT hmx n c _ a w hr h1 (fun G a w hr hk=>?_) (fun e G a w hr hne hk=>?_)
 .obtain⟨x,hx⟩:=hk;exact(h2 x).sem c0 a w Q (hr.weaken hx (hfr x)) hq
 .cases e with
  |normal=>exact absurd rfl hne
  |ret=>exact hq _ _ _ _ hr hk
  | _=>exact hk.elim
variable {c:Ctx} {G:St} {a:Act} {w:World}
open Classical in
set_option maxHeartbeats 1000000 in
theorem qr(hT:TabOK P T)(hmx:P.follows .mixedOrders =true){f:Nat}{fn:Func}{code:Code}(hf:P.funcs[f]? =some fn)(hb:fn.body=some code)(hname:(fn.name== "runtime.NumGoroutine")=false)
 {ex:List Nat} {H H':Hp} {A:List AV} {r:AV} (h:fnC T ex code fn.ntmps H A H' (SemOK P T fn.results.toList ex r H' code)):zh8 P f H A r H':=by
 unfold fnC at h;rw[vf,um]at h;split at h
 case h_2=>exact h.elim
 rename_i hd1 hd2 hfar hfar' hnf hnod hex;have hk:=h;rw[jr]at hd1 hd2;rw[q1]at hex;have hexlo:=zj5 hex.1;have hexnd:=zan hex.2;have hnod:=zan hnod;rw[znp]at hnf;refine⟨⟨fn,hf,by rw[hb];rfl,hname⟩,fun w M pt ow S vs hcore hcont hargs=>?_⟩
 let c0:Ctx:= {M0:=M,w0:=w,mine:=fun b=>(∃i,bl pt ow i=some b)\/S b,sm:=S,pt0:=pt,ow0:=ow}
 have hkout:∀i,uh H i->i∉ze T code:=fun i hi hj=>hd2 i hj (za4.2 hi)
 have hout:∀i x,hget H i=x->x≠ .dead ->hget (zhx (wl (ze T code)) H) i=x:=fun i x hx hn=>by
  rw[qa (hkout i (zr (by rw[hx];exact hn)))];exact hx
 have hback:∀i x,hget (zhx (wl (ze T code)) H) i=x->x≠ .free ->hget H i=x:=fun i x hx hn=>by
  by_cases hi:i∈ze T code
  .rw[kz hi]at hx;exact absurd hx.symm hn
  .rw[qa hi]at hx;exact hx
 have hlen:=hargs.length;have hkpt:∀i,(hget H i).isPt =true->uh H i:=fun i hi=>zr fun e=>by rw[e]at hi;cases hi
 have hkow:∀i,(hget H i).isBuf =true->uh H i:=fun i hi=>zr fun e=>by rw[e]at hi;cases hi
 have hg0:Good c0 M pt ow S (zhx (wl (ze T code)) H) w:= {
  os:=rfl,tape:=rfl,output:=rfl,size:=qD _,keep:=fun _ _ _=>rfl,fresh:=hcore.fresh,m0:=fun _ h=>h,m1:=hcore.fresh,mt:=hcore.mt
  gm:=hcore.gm,gd:=hcore.gd,gl:=fun b hb=>.inr ⟨.inr hb,hb⟩
  loc:=fun i b hb=>.inr ⟨.inl ⟨i,hb⟩,by
   have hk:uh H i:=by
    unfold bl at hb
    cases hq:pt i with
    |some z=>exact hkpt i (hcore.dpt i z hq)
    |none=>
     rw[hq]at hb
     cases hq2:ow i with
     |none=>rw[hq2]at hb;cases hb
     |some z=>exact hkow i (hcore.dow i z hq2)
   exact(zkh hfar i (za4.2 hk)).1⟩
  farp:=fun _ _ _ h=>h,farw:=fun _ _ _ h=>.inl h
  inj:=hcore.inj
  dpt:=fun i b hb=>by rw[qa (hkout i (hkpt i (hcore.dpt i b hb)))];exact hcore.dpt i b hb
  dow:=fun i b hb=>by rw[qa (hkout i (hkow i (hcore.dow i b hb)))];exact hcore.dow i b hb
  blk:=fun i=>by
   by_cases hi:i∈ze T code
   .rw[kz hi];trivial
   .rw[qa hi];exact hcore.blk i}
 have hfree:∀i,i∈wk A++zc4 H->(hget (zhx (wl (ze T code)) H) i).isFree =false:=fun i hi=>by
  rw[qa fun hj=>hd1 i hj hi];exact zc9 hnf
 have hrel:Rel c0 ⟨A++uo (fn.ntmps-A.length),zhx (wl (ze T code)) H⟩ {tmps:=vs.toArray++Array.replicate (fn.ntmps-vs.toArray.size) undef,defers:= []} w:=by
  refine⟨M,pt,ow,S,hg0,fun pt' ow' hag=>?_,.nil⟩;have hle:∀is:List Nat,(∀i∈is,i∈wk A++zc4 H)->Env.le ⟨zo w M,pt,ow⟩ ⟨zo w M,pt',ow'⟩ is:=fun is his=>⟨fun _ _ h=>h,fun i hi=>by
   have:=hag i (hfree i (his i hi));exact⟨fun b hb=>by change pt' i=some b at hb;rw[this.1]at hb;exact hb,fun b hb=>by change ow' i=some b at hb;rw[this.2]at hb;exact hb⟩⟩
  refine⟨?_,fun i l b cs Ty hl hb hcs=>?_⟩
  .have h1:=hargs.imp A _ (hle _ fun i hi=>by simp[hi]);have h2:=znq (ρ:=⟨zo w M,pt',ow'⟩) (fn.ntmps-A.length);have:=h1.append h2;rw[hlen]at this⊢;simpa using this
  .have hl':=hback i _ hl OC;exact(hcont i l b cs Ty hl' hb hcs).imp _ _ (hle _ fun j hj=>by simp only[List.mem_append];exact .inr (jv hl' j hj))
 have hfin:∀(G:St)(a:Act)(w':World),Rel c0 G a w'->ze3 T fn.results.toList ex r H' G->LeavesInM qF 0 P fn a.tmps (Ans w M pt ow S r H') a.defers .returning w':=by
  intro G a w' hr hK;obtain⟨_,_,_,_,_,_,Ds,hDs,_⟩:=id hr;obtain⟨tm,ds⟩:=a;simp only at hDs;subst hDs;refine zbq tm (fun w' hr=>?_) Ds w' hr;unfold ze3 at hK;obtain⟨l1,hK,_⟩:=zai hT hr _ _ hK;obtain⟨σ',hr',hK⟩:=xc hr hK;obtain⟨l,⟨hleA,hleH⟩,vs',hrun,hrs⟩:=zai hT hr' _ _ hK;obtain⟨M1,pt1,ow1,S1,hg,hs,_⟩:=hr';obtain⟨v,hv,hRv⟩:=zgi hrun (hrs M1 pt1 ow1 S1 hg hs);refine⟨v,hv,?_⟩;obtain⟨ptN,owN,hgN,hless,hcel⟩:=hg.weaken (zj6 hleH);have hexI:∀i,i∈keys H'->(i<2000000/\(1000000<=i/\(i<1500000\/1999999<=i))/\exI ex i=i)\/(2000000<=i/\∃h:i-2000000<ex.length,exI ex i=ex[i-2000000]):=fun i hi=>by
   obtain⟨h1,h2,h2'⟩:=zkh hfar' i hi;rcases qB i 2000000 with h3|h3
   .exact .inl ⟨h3,⟨h1,h2'⟩,zyy h3⟩
   .exact .inr ⟨h3,O,qe9 h3 h2⟩
  have hexin:∀i,i∈keys H'->2000000<=i->exI ex i∈ex/\exI ex i<=999998:=fun i hi h2=>by
   rcases hexI i hi with h|⟨_,h3,h4⟩
   .omega
   .rw[h4];exact⟨List.getElem_mem _,hexlo _ (List.getElem_mem _)⟩
  have hinj:∀i,i∈keys H'->∀j∈keys H',exI ex j=exI ex i->j=i:=fun i hi j hj e=>by
   rcases hexI i hi with ⟨h1,h2,h3⟩|⟨h1,h2,h3⟩<;>rcases hexI j hj with ⟨h4,h5,h6⟩|⟨h4,h5,h6⟩
   .rw[h3,h6]at e;exact e
   .have:=(hexin j hj h4).2;rw[h3]at e;omega
   .have:=(hexin i hi h1).2;rw[h6]at e;omega
   .rw[h3,h6]at e;have:=(List.getElem_inj hexnd).1 e;omega
  have hgetm:∀i,i∈keys H'->hget (zew (exI ex) H') (exI ex i)=(hget H' i).mapI (exI ex):=fun i hi=>zg1 _ hi (hinj i hi)
  have hkeyH':∀i,hget H' i≠ .dead ->i∈keys H':=fun i hi=>za4.2 (zr hi)
  have hfarp:∀i b,(1000000<=i/\(i<1500000\/1999999<=i))->ptN i=some b->pt i=some b:=fun i b hi=>hgN.farp i b hi.1
  have hfarw:∀i b,(1000000<=i/\(i<1500000\/1999999<=i))->owN i=some b->ow i=some b:=fun i b hi hb=>by
   rcases hgN.farw i b hi.1 hb with h1|h1
   .exact h1
   .omega
  have hblf:∀i b,(1000000<=i/\(i<1500000\/1999999<=i))->bl ptN owN i=some b->bl pt ow i=some b:=fun i b hi hb=>by
   unfold bl at hb⊢
   cases hq:ptN i with
   |some z=>rw[hq]at hb;rw[hfarp i z hi hq];exact hb
   |none=>
    rw[hq]at hb
    cases hq2:owN i with
    |none=>rw[hq2]at hb;cases hb
    |some z=>
     rw[hq2]at hb;have h1:=hfarw i z hi hq2;rw[hcore.ptow h1,h1];exact hb
  have hbln:∀i b,i<=999998->bl ptN owN i=some b->w.heap.size<=b:=fun i b hi hb=>by
   rcases hgN.loc i b hb with h1|h1
   .exact h1
   .have:=h1.2;omega
  let ptF:Nat->Option Nat:=fun i=>if i∈keys H' then ptN (exI ex i)else none
  let owF:Nat->Option Value:=fun i=>if i∈keys H' then owN (exI ex i)else none
  let MF:Nat->Prop:=fun b=>M b\/S1 b\/∃i,i∈ex/\bl ptN owN i=some b
  have hF:∀i,i∈keys H'->ptF i=ptN (exI ex i)/\owF i=owN (exI ex i):=fun i hi=>by simp only[ptF,owF,Z6 hi];exact⟨trivial,trivial⟩
  have hFp:∀i b,ptF i=some b->i∈keys H'/\ptN (exI ex i)=some b:=fun i b hb=>by
   by_cases hi:i∈keys H'
   .exact⟨hi,by rw[(hF i hi).1]at hb;exact hb⟩
   .simp only[ptF,Z7 hi]at hb;cases hb
  have hFw:∀i b,owF i=some b->i∈keys H'/\owN (exI ex i)=some b:=fun i b hb=>by
   by_cases hi:i∈keys H'
   .exact⟨hi,by rw[(hF i hi).2]at hb;exact hb⟩
   .simp only[owF,Z7 hi]at hb;cases hb
  have hFb:∀i b,bl ptF owF i=some b->i∈keys H'/\bl ptN owN (exI ex i)=some b:=fun i b hb=>by
   by_cases hi:i∈keys H'
   .exact⟨hi,by simpa only[bl,(hF i hi).1,(hF i hi).2]using hb⟩
   .simp only[bl,ptF,owF,Z7 hi]at hb;cases hb
  have hMF1:∀b,MF b->M1 b:=fun b hb=>by
   rcases hb with h1|h1|⟨i,_,h1⟩
   .exact hgN.m0 b h1
   .exact hgN.gm b h1
   .exact hgN.mt i b h1
  have hV:∀b o,zo w' M1 b o->zo w' MF b o:=zy fun b o hm hb=>⟨fun h'=>hm (hMF1 b h'),hb⟩
  have hR1:∀(x:AV)(y:Value),R ⟨zo w' M1,ptN,owN⟩ (x.mapI (exI ex)) y->R ⟨zo w' MF,ptF,owF⟩ x y:=fun x y hx=>by
   have h1:=(R.mapI (V:=zo w' M1) (f:=exI ex) (pt:=fun i=>ptN (exI ex i)) (ow:=fun i=>owN (exI ex i)) (pt':=ptN) (ow':=owN) x y fun i _=>⟨rfl,rfl⟩).1 hx;exact h1.imp x y ⟨hV,fun i _=>⟨fun b hb=>(hFp i b hb).2,fun b hb=>(hFw i b hb).2⟩⟩
  have hR2:∀(x:List AV)(y:List Value),Rs ⟨zo w' M1,ptN,owN⟩ (xw (exI ex) x) y->Rs ⟨zo w' MF,ptF,owF⟩ x y:=fun x y hx=>by
   have h1:=(Rs.mapI (V:=zo w' M1) (f:=exI ex) (pt:=fun i=>ptN (exI ex i)) (ow:=fun i=>owN (exI ex i)) (pt':=ptN) (ow':=owN) x y fun i _=>⟨rfl,rfl⟩).1 hx;exact h1.imp x y ⟨hV,fun i _=>⟨fun b hb=>(hFp i b hb).2,fun b hb=>(hFw i b hb).2⟩⟩
  refine⟨v,MF,ptF,owF,S1,rfl,?_,?_,hR1 r v (R.le _ _ _ hleA (hless _) hRv),?_⟩
  .exact {
    fresh:=fun b hb=>hgN.fresh b (hMF1 b hb)
    mt:=fun i b hb=>by
     obtain⟨hi,hb'⟩:=hFb i b hb;rcases hexI i hi with ⟨h1,h2,h3⟩|⟨h1,_,_⟩
     .rw[h3]at hb';exact .inl (hcore.mt i b (hblf i b h2 hb'))
     .exact .inr (.inr ⟨_,(hexin i hi h1).1,hb'⟩)
    inj:=fun i j b hi hj=>by
     obtain⟨h1,h2⟩:=hFb i b hi;obtain⟨h3,h4⟩:=hFb j b hj;exact(hinj i h1 j h3 (hgN.inj _ _ b h4 h2)).symm
    gm:=fun b hb=>.inr (.inl hb)
    gd:=fun i b hb=>hgN.gd _ b (hFb i b hb).2
    dpt:=fun i b hb=>by
     obtain⟨hi,hb'⟩:=hFp i b hb;have:=hgN.dpt _ b hb';rw[hgetm i hi,zap]at this;exact this
    dow:=fun i b hb=>by
     obtain⟨hi,hb'⟩:=hFw i b hb;have:=hgN.dow _ b hb';rw[hgetm i hi,xe]at this;exact this
    blk:=fun i=>by
     by_cases hi:i∈keys H'
     .have h1:=hgN.blk (exI ex i);rw[hgetm i hi]at h1;have h2:=h1.unren (pt':=ptF) (ow':=owF) (i:=i) (exI ex) (hF i hi).1 (hF i hi).2 fun e=>by
       rcases hexI i hi with ⟨h3,h4,h5⟩|⟨h3,_,_⟩
       .rw[h5]at e;exact e
       .have:=(hexin i hi h3).2;rw[e]at this;simp only[qi]at this;omega
      refine h2.mono rfl rfl hV (fun x hx=>?_) (fun _ _ _ h=>h) (fun _ _ _ h=>h);obtain⟨_,hx'⟩:=hFw i x hx;rw[(hF i hi).1];exact hgN.ptow hx'
     .have:hget H' i=.dead :=by
       cases e:hget H' i<;>first|rfl|exact absurd (hkeyH' i (by rw[e];simp)) hi
      rw[this];trivial}
  .intro i m b cs Ty hm hb' hcs;obtain⟨hi,hb''⟩:=hFp i b hb';have h1:=hgetm i hi;rw[hm]at h1;simp only[Blk.mapI]at h1;obtain⟨l0,h2,h3,h4⟩:=hcel _ _ h1;rw[h4]at hb'';exact hR2 m _ (Rs.le _ _ _ h3 (hless _) ((hs pt1 ow1 (Agr.refl _ _ _)).2 _ l0 b cs Ty h2 hb'' hcs))
  .exact {
    os:=hgN.os,tape:=hgN.tape,output:=hgN.output,size:=hgN.size
    same:=fun b hb hn hS=>hgN.keep b hb fun h=>h.elim (fun⟨i,hi⟩=>hn i hi) hS
    mm:=fun b hb=>.inl hb
    mn:=fun b hb=>by
     rcases hb with h1|h1|⟨i,hi,h1⟩
     .exact .inl h1
     .rcases hgN.gl b h1 with h2|h2
      .exact .inr h2
      .exact .inl (hcore.gm b h2.2)
     .exact .inr (hbln i b (hexlo i hi) h1)
    sn:=fun b hb=>by
     rcases hgN.gl b hb with h2|h2
     .exact .inr h2
     .exact .inl h2.2
    lept:=fun i b hb=>by
     obtain⟨hi,hb'⟩:=hFp i b hb;rcases hexI i hi with ⟨h1,h2,h3⟩|⟨h1,_,_⟩
     .rw[h3]at hb';exact .inl (hfarp i b h2 hb')
     .exact .inr ⟨hbln _ b (hexin i hi h1).2 (by simp[bl,hb']),h1⟩
    leow:=fun i x hx=>by
     obtain⟨hi,hx'⟩:=hFw i x hx;rcases hexI i hi with ⟨h1,h2,h3⟩|⟨h1,_,_⟩
     .rw[h3]at hx';exact .inl (hfarw i x h2 hx')
     .refine .inr ⟨fun b hb=>.inl (hbln _ b (hexin i hi h1).2 ?_),h1⟩;unfold bl;rw[hgN.ptow hx',hx'];cases x<;>first|exact hb|(simp[vbl]at hb;done)|(rename_i ao _ _;cases ao<;>first|exact hb|(simp[vbl]at hb;done))}
 refine callsIn_wide.1 (callsIn_of_wp_marks (n:=0) hf hb trivial (hk.sem c0 _ _ _ hrel fun e G a w' hr hK=>?_))
 cases e with
 |normal=>exact hfin G a w' hr hK
 |ret=>exact hfin G a w' hr hK
 | _=>exact hK.elim
end
theorem zxc{T:Tab}{ex:List Nat}{c:Code}{n:Nat}{H:Hp}{A:List AV}{H':Hp}{W W':St->Prop}(hw:∀sl hp,W ⟨sl,hp⟩->W' ⟨sl,hp⟩)(h:fnC T ex c n H A H' W):fnC T ex c n H A H' W':=by
 unfold fnC at h⊢;rw[vf,um]at h⊢;generalize zde (ze T c) (wk A++zc4 H)=b1 at h⊢;generalize zde (ze T c) (keys H)=b2 at h⊢;generalize far 0 (keys H)=b3 at h⊢;generalize far ex.length (keys H')=b4 at h⊢;generalize yf (zqv H)=b5 at h⊢;generalize zdy (keys H')=b6 at h⊢;generalize (qc1 ex&&zdy ex)=b7 at h⊢
 match b1,b2,b3,b4,b5,b6,b7,h with
 |true,true,true,true,true,true,true,h=>exact hw _ _ h
theorem fnT{P:Program}{T:Tab}(hT:TabOK P T)(hmx:P.follows .mixedOrders =true){f:Nat}{fn:Func}{code:Code}(hf:P.funcs[f]? =some fn)(hb:fn.body=some code)(hname:(fn.name== "runtime.NumGoroutine")=false)
 {ex:List Nat} {H H':Hp} {A:List AV} {r:AV} (h:fnC T ex code fn.ntmps H A H' fun G=>zau T (CN P) code true G (fun G=>ze3 T fn.results.toList ex r H' G) (fun _ _=>False) (fun G=>ze3 T fn.results.toList ex r H' G)):zh8 P f H A r H':=by
 refine qr hT hmx hf hb hname (ex:=ex) (zxc (fun sl hp h=>?_) h);exact ww hT hmx (by rw[vf,um];exact h)
theorem gZn{Q K:List Blk->AV->Prop}{r:AV}(h:Q [] r)(k:K [] r):∃b r,Q b r/\K b r:=⟨_,_,h,k⟩
theorem gYn{Q K:List Blk->AV->Prop}{r:AV}(h:Q [] r){X:Prop}(k:X)(e:K [] r=X:=by conv=>lhs;whnf):∃b r,Q b r/\K b r:=⟨_,_,h,e.mpr k⟩
theorem gYe{A B X:Prop}(k:X)(a:A:=by first|kernel_rfl)(e:B=X:=by conv=>lhs;whnf):A/\B:=⟨a,e.mpr k⟩
theorem gYd{A B C X:Prop}(k:X)(a:A:=by first|kernel_rfl)(b:B:=by first|kernel_rfl)(e:C=X:=by conv=>lhs;whnf):A/\B/\C:=⟨a,b,e.mpr k⟩
theorem zae.slice{w:World}{V:kf}{e:TypeId}{k:Elt}{xs:List k.T}{h:Value}(hb:zae w V e k xs h):∃a n c,h=.slice a n c:=by
 rcases hb with ⟨h1,_⟩|⟨b,cap,cs,h1,_⟩
 .exact⟨_,_,_,h1⟩
 .exact⟨_,_,_,h1⟩
section
variable {P:Program} {T:Tab} {F:Wf} {c:Ctx} {G:St} {a:Act} {w:World}
set_option maxHeartbeats 1000000 in
open Classical in
set_option maxHeartbeats 2000000 in
end
structure LeftB(B:List Nat)(w w':World)(M M':Nat->Prop)(pt:Nat->Option Nat)(ow:Nat->Option Value)(pt':Nat->Option Nat)(ow':Nat->Option Value):Prop where
 os:w'.os=w.os
 tape:w'.tape=w.tape
 output:w'.output=w.output
 size:w.heap.size<=w'.heap.size
 same:∀b,b<w.heap.size->(∀i,bl pt ow i≠some b)->w'.heap[b]? =w.heap[b]?
 mm:∀b,M b->M' b
 mn:∀b,M' b->M b\/w.heap.size<=b
 lept:∀i b,pt' i=some b->pt i=some b
 leow:∀i h,ow' i=some h->ow i=some h\/(i∈B/\∀b,vbl h=some b->w.heap.size<=b\/∃j,bl pt ow j=some b)
def AnsB(B:List Nat)(w:World)(M:Nat->Prop)(pt:Nat->Option Nat)(ow:Nat->Option Value)(r:AV)(H':Hp)(e:Ending)(w':World):Prop:=
 ∃v M' pt' ow',e=.returned v/\Core M' pt' ow' (fun _=>False) H' w'/\zfa H' w' M' pt' ow' pt' ow'/\R ⟨zo w' M',pt',ow'⟩ r v/\LeftB B w w' M M' pt ow pt' ow'
def FnRB(P:Program)(f:Nat)(B:List Nat):CT:=fun H A r H'=>
 Ent P f/\∀(w:World)(M:Nat->Prop)(pt:Nat->Option Nat)(ow:Nat->Option Value)(vs:List Value),Core M pt ow (fun _=>False) H w->zfa H w M pt ow pt ow->Rs ⟨zo w M,pt,ow⟩ A vs->
  Calls P f vs.toArray w (AnsB B w M pt ow r H')
section
variable {P:Program} {c:Ctx} {G:St} {a:Act} {w:World}
open Classical in
end
def farC:List Nat->Bool
 | []=>true
 |i::l=>q4 1000000 i&&q4 i 1999998&&farC l
def kOk(B:List Nat):List Nat->Bool
 | []=>true
 |i::l=>q4 1000000 i&&q4 i 1999998&&(Nat.blt i 1500000||zev i B)&&kOk B l
def zlc:List Blk->Bool
 | []=>true
 |.gst _::_=>false
 | _::l=>zlc l
theorem zpj:∀ {l:List Nat},farC l=true->∀i∈l,1000000<=i/\i<=1999998
 | [],_,i,hi=>by cases hi
 |j::l,h,i,hi=>by
  simp only[farC,q1]at h;rcases List.mem_cons.1 hi with rfl|hi
  .exact⟨q0 h.1.1,q0 h.1.2⟩
  .exact zpj h.2 i hi
theorem znf{B:List Nat}:∀ {l:List Nat},kOk B l=true->∀i∈l,(1000000<=i/\i<=1999998)/\(i<1500000\/i∈B)
 | [],_,i,hi=>by cases hi
 |j::l,h,i,hi=>by
  simp only[kOk,q1,q3]at h;rcases List.mem_cons.1 hi with rfl|hi
  .refine⟨⟨q0 h.1.1.1,q0 h.1.1.2⟩,h.1.2.imp (fun h=>?_) (wy _ _).1⟩;rw[qE]at h;exact h
  .exact znf h.2 i hi
theorem zlb:∀ {H:Hp},zlc (zqv H)=true->∀i J,hget H i≠ .gst J
 | [],_,i,J,h=>by simp[hget]at h
 |(j,b)::r,hn,i,J,h=>by
  rw[zf]at h;have hr:zlc (zqv r)=true/\∀J,b≠ .gst J:=by
   cases b<;>first|(simp[zqv,zlc]at hn;done)|exact⟨by simpa[zqv,zlc]using hn,fun J e=>by cases e⟩
  split at h
  .exact hr.2 J h
  .exact zlb hr.1 i J h
def fnCB(T:Tab)(B:List Nat)(c:Code)(n:Nat)(H:Hp)(A:List AV)(H':Hp)(W:St->Prop):Prop:=
 zkd (A++uo (n-A.length)) fun sl=>ztx (zhx (wl (ze T c)) H) fun hp=>
  match zde (ze T c) (wk A++zc4 H),zde (ze T c) (keys H),farC (keys H),kOk B (keys H'),yf (zqv H),zdy (keys H'),zlc (zqv H')with
  |true,true,true,true,true,true,true=>W ⟨sl,hp⟩
  | _,_,_,_,_,_,_=>False
section
variable {P:Program} {T:Tab}
open Classical in
set_option maxHeartbeats 1000000 in
theorem zei(hT:TabOK P T){f:Nat}{fn:Func}{code:Code}(hf:P.funcs[f]? =some fn)(hb:fn.body=some code)(hname:(fn.name== "runtime.NumGoroutine")=false)
 {B:List Nat} (ex:List Nat) {H H':Hp} {A:List AV} {r:AV} (h:fnCB T B code fn.ntmps H A H' (SemOK P T fn.results.toList ex r H' code)):FnRB P f B H A r H':=by
 unfold fnCB at h;rw[vf,um]at h;split at h
 case h_2=>exact h.elim
 rename_i hd1 hd2 hfar hfar' hnf hnod hng;have hk:=h;rw[jr]at hd1 hd2;have hnod:=zan hnod;rw[znp]at hnf;refine⟨⟨fn,hf,by rw[hb];rfl,hname⟩,fun w M pt ow vs hcore hcont hargs=>?_⟩
 let c0:Ctx:= {M0:=M,w0:=w,mine:=fun b=>∃i,bl pt ow i=some b,sm:=fun _=>False,pt0:=pt,ow0:=ow}
 have hkout:∀i,uh H i->i∉ze T code:=fun i hi hj=>hd2 i hj (za4.2 hi)
 have hback:∀i x,hget (zhx (wl (ze T code)) H) i=x->x≠ .free ->hget H i=x:=fun i x hx hn=>by
  by_cases hi:i∈ze T code
  .rw[kz hi]at hx;exact absurd hx.symm hn
  .rw[qa hi]at hx;exact hx
 have hlen:=hargs.length;have hkpt:∀i,(hget H i).isPt =true->uh H i:=fun i hi=>zr fun e=>by rw[e]at hi;cases hi
 have hkow:∀i,(hget H i).isBuf =true->uh H i:=fun i hi=>zr fun e=>by rw[e]at hi;cases hi
 have hg0:Good c0 M pt ow (fun _=>False) (zhx (wl (ze T code)) H) w:= {
  os:=rfl,tape:=rfl,output:=rfl,size:=qD _,keep:=fun _ _ _=>rfl,fresh:=hcore.fresh,m0:=fun _ h=>h,m1:=hcore.fresh,mt:=hcore.mt
  gm:=hcore.gm,gd:=hcore.gd,gl:=fun b hb=>hb.elim
  loc:=fun i b hb=>.inr ⟨⟨i,hb⟩,by
   have hk:uh H i:=by
    unfold bl at hb
    cases hq:pt i with
    |some z=>exact hkpt i (hcore.dpt i z hq)
    |none=>
     rw[hq]at hb
     cases hq2:ow i with
     |none=>rw[hq2]at hb;cases hb
     |some z=>exact hkow i (hcore.dow i z hq2)
   exact(zpj hfar i (za4.2 hk)).1⟩
  farp:=fun _ _ _ h=>h,farw:=fun _ _ _ h=>.inl h
  inj:=hcore.inj
  dpt:=fun i b hb=>by rw[qa (hkout i (hkpt i (hcore.dpt i b hb)))];exact hcore.dpt i b hb
  dow:=fun i b hb=>by rw[qa (hkout i (hkow i (hcore.dow i b hb)))];exact hcore.dow i b hb
  blk:=fun i=>by
   by_cases hi:i∈ze T code
   .rw[kz hi];trivial
   .rw[qa hi];exact hcore.blk i}
 have hfree:∀i,i∈wk A++zc4 H->(hget (zhx (wl (ze T code)) H) i).isFree =false:=fun i hi=>by
  rw[qa fun hj=>hd1 i hj hi];exact zc9 hnf
 have hrel:Rel c0 ⟨A++uo (fn.ntmps-A.length),zhx (wl (ze T code)) H⟩ {tmps:=vs.toArray++Array.replicate (fn.ntmps-vs.toArray.size) undef,defers:= []} w:=by
  refine⟨M,pt,ow,fun _=>False,hg0,fun pt' ow' hag=>?_,.nil⟩;have hle:∀is:List Nat,(∀i∈is,i∈wk A++zc4 H)->Env.le ⟨zo w M,pt,ow⟩ ⟨zo w M,pt',ow'⟩ is:=fun is his=>⟨fun _ _ h=>h,fun i hi=>by
   have:=hag i (hfree i (his i hi));exact⟨fun b hb=>by change pt' i=some b at hb;rw[this.1]at hb;exact hb,fun b hb=>by change ow' i=some b at hb;rw[this.2]at hb;exact hb⟩⟩
  refine⟨?_,fun i l b cs Ty hl hb hcs=>?_⟩
  .have h1:=hargs.imp A _ (hle _ fun i hi=>by simp[hi]);have h2:=znq (ρ:=⟨zo w M,pt',ow'⟩) (fn.ntmps-A.length);have:=h1.append h2;rw[hlen]at this⊢;simpa using this
  .have hl':=hback i _ hl OC;exact(hcont i l b cs Ty hl' hb hcs).imp _ _ (hle _ fun j hj=>by simp only[List.mem_append];exact .inr (jv hl' j hj))
 have hfin:∀(G:St)(a:Act)(w':World),Rel c0 G a w'->ze3 T fn.results.toList ex r H' G->LeavesInM qF 0 P fn a.tmps (AnsB B w M pt ow r H') a.defers .returning w':=by
  intro G a w' hr hK;obtain⟨_,_,_,_,_,_,Ds,hDs,_⟩:=id hr;obtain⟨tm,ds⟩:=a;simp only at hDs;subst hDs;refine zbq tm (fun w' hr=>?_) Ds w' hr;unfold ze3 at hK;obtain⟨l1,hK,_⟩:=zai hT hr _ _ hK;obtain⟨σ',hr',hK⟩:=xc hr hK;obtain⟨l,⟨hleA,hleH⟩,vs',hrun,hrs⟩:=zai hT hr' _ _ hK;obtain⟨M1,pt1,ow1,S1,hg,hs,_⟩:=hr';obtain⟨v,hv,hRv⟩:=zgi hrun (hrs M1 pt1 ow1 S1 hg hs);refine⟨v,hv,?_⟩;obtain⟨ptN,owN,hgN,hless,hcel⟩:=hg.weaken (zj6 hleH);have hlo:∀i,i∈keys H'->1000000<=i/\i<=1999998:=fun i hi=>(znf hfar' i hi).1
  have hex:∀i,i∈keys H'->exI ex i=i:=fun i hi=>zyy (by have:=hlo i hi;omega)
  have hinj:∀i,i∈keys H'->∀j∈keys H',exI ex j=exI ex i->j=i:=fun i hi j hj e=>by rwa [hex i hi,hex j hj]at e
  have hgetm:∀i,i∈keys H'->hget (zew (exI ex) H') (exI ex i)=(hget H' i).mapI (exI ex):=fun i hi=>zg1 _ hi (hinj i hi)
  have hkeyH':∀i,hget H' i≠ .dead ->i∈keys H':=fun i hi=>za4.2 (zr hi)
  let ptF:Nat->Option Nat:=fun i=>if i∈keys H' then ptN (exI ex i)else none
  let owF:Nat->Option Value:=fun i=>if i∈keys H' then owN (exI ex i)else none
  let MF:Nat->Prop:=fun b=>M b\/∃i,i∈keys H'/\bl ptN owN i=some b
  have hF:∀i,i∈keys H'->ptF i=ptN i/\owF i=owN i:=fun i hi=>by simp only[ptF,owF,Z6 hi,hex i hi];exact⟨trivial,trivial⟩
  have hF':∀i,i∈keys H'->ptF i=ptN (exI ex i)/\owF i=owN (exI ex i):=fun i hi=>by rw[hex i hi];exact hF i hi
  have hFp:∀i b,ptF i=some b->i∈keys H'/\ptN i=some b:=fun i b hb=>by
   by_cases hi:i∈keys H'
   .exact⟨hi,by rw[(hF i hi).1]at hb;exact hb⟩
   .simp only[ptF,Z7 hi]at hb;cases hb
  have hFw:∀i b,owF i=some b->i∈keys H'/\owN i=some b:=fun i b hb=>by
   by_cases hi:i∈keys H'
   .exact⟨hi,by rw[(hF i hi).2]at hb;exact hb⟩
   .simp only[owF,Z7 hi]at hb;cases hb
  have hFb:∀i b,bl ptF owF i=some b->i∈keys H'/\bl ptN owN i=some b:=fun i b hb=>by
   by_cases hi:i∈keys H'
   .exact⟨hi,by simpa only[bl,(hF i hi).1,(hF i hi).2]using hb⟩
   .simp only[bl,ptF,owF,Z7 hi]at hb;cases hb
  have hMF1:∀b,MF b->M1 b:=fun b hb=>by
   rcases hb with h1|⟨i,_,h1⟩
   .exact hgN.m0 b h1
   .exact hgN.mt i b h1
  have hV:∀b o,zo w' M1 b o->zo w' MF b o:=zy fun b o hm hb=>⟨fun h'=>hm (hMF1 b h'),hb⟩
  have hR1:∀(x:AV)(y:Value),R ⟨zo w' M1,ptN,owN⟩ (x.mapI (exI ex)) y->R ⟨zo w' MF,ptF,owF⟩ x y:=fun x y hx=>by
   have h1:=(R.mapI (V:=zo w' M1) (f:=exI ex) (pt:=fun i=>ptN (exI ex i)) (ow:=fun i=>owN (exI ex i)) (pt':=ptN) (ow':=owN) x y fun i _=>⟨rfl,rfl⟩).1 hx;exact h1.imp x y ⟨hV,fun i _=>⟨fun b hb=>by
    obtain⟨h2,h3⟩:=hFp i b hb;show ptN (exI ex i)=some b;rw[hex i h2];exact h3,fun b hb=>by
    obtain⟨h2,h3⟩:=hFw i b hb;show owN (exI ex i)=some b;rw[hex i h2];exact h3⟩⟩
  have hR2:∀(x:List AV)(y:List Value),Rs ⟨zo w' M1,ptN,owN⟩ (xw (exI ex) x) y->Rs ⟨zo w' MF,ptF,owF⟩ x y:=fun x y hx=>by
   have h1:=(Rs.mapI (V:=zo w' M1) (f:=exI ex) (pt:=fun i=>ptN (exI ex i)) (ow:=fun i=>owN (exI ex i)) (pt':=ptN) (ow':=owN) x y fun i _=>⟨rfl,rfl⟩).1 hx;exact h1.imp x y ⟨hV,fun i _=>⟨fun b hb=>by
    obtain⟨h2,h3⟩:=hFp i b hb;show ptN (exI ex i)=some b;rw[hex i h2];exact h3,fun b hb=>by
    obtain⟨h2,h3⟩:=hFw i b hb;show owN (exI ex i)=some b;rw[hex i h2];exact h3⟩⟩
  refine⟨v,MF,ptF,owF,rfl,?_,?_,hR1 r v (R.le _ _ _ hleA (hless _) hRv),?_⟩
  .exact {
    fresh:=fun b hb=>hgN.fresh b (hMF1 b hb)
    mt:=fun i b hb=>by
     obtain⟨hi,hb'⟩:=hFb i b hb;exact .inr ⟨i,hi,hb'⟩
    inj:=fun i j b hi hj=>hgN.inj i j b (hFb i b hi).2 (hFb j b hj).2
    gm:=fun b hb=>hb.elim
    gd:=fun i b _ hS=>hS
    dpt:=fun i b hb=>by
     obtain⟨hi,hb'⟩:=hFp i b hb;have:=hgN.dpt _ b hb';have e:=hgetm i hi;rw[hex i hi]at e;rw[e,zap]at this;exact this
    dow:=fun i b hb=>by
     obtain⟨hi,hb'⟩:=hFw i b hb;have:=hgN.dow _ b hb';have e:=hgetm i hi;rw[hex i hi]at e;rw[e,xe]at this;exact this
    blk:=fun i=>by
     by_cases hi:i∈keys H'
     .have h1:=hgN.blk (exI ex i);rw[hgetm i hi]at h1;have h2:=h1.unren (pt':=ptF) (ow':=owF) (i:=i) (exI ex) (hF' i hi).1 (hF' i hi).2 fun e=>by
       rw[hex i hi]at e;exact e
      have h3:=h2.mono (w':=w') (V':=zo w' MF) rfl rfl hV (fun x hx=>by
       obtain⟨_,hx'⟩:=hFw i x hx;rw[(hF i hi).1];exact hgN.ptow hx') (fun _ _ _ h=>h) (fun _ _ _ h=>h)
      have h4:=h3.ren (pt':=ptF) (ow':=owF) (S':=fun _=>False) (i:=i) id rfl rfl (fun e=>by
       have:=hlo i hi;simp only[qi]at e;omega)
      rwa [Blk.mapI_id']at h4
     .have:hget H' i=.dead :=by
       cases e:hget H' i<;>first|rfl|exact absurd (hkeyH' i (by rw[e];simp)) hi
      rw[this];trivial}
  .intro i m b cs Ty hm hb' hcs;obtain⟨hi,hb''⟩:=hFp i b hb';have h1:=hgetm i hi;rw[hm]at h1;simp only[Blk.mapI]at h1;obtain⟨l0,h2,h3,h4⟩:=hcel _ _ h1;rw[hex i hi]at h2 h4;rw[h4]at hb'';exact hR2 m _ (Rs.le _ _ _ h3 (hless _) ((hs pt1 ow1 (Agr.refl _ _ _)).2 _ l0 b cs Ty h2 hb'' hcs))
  .exact {
    os:=hgN.os,tape:=hgN.tape,output:=hgN.output,size:=hgN.size
    same:=fun b hb hn=>hgN.keep b hb fun⟨i,hi⟩=>hn i hi
    mm:=fun b hb=>.inl hb
    mn:=fun b hb=>by
     rcases hb with h1|⟨i,hi,h1⟩
     .exact .inl h1
     .rcases hgN.loc i b h1 with h2|⟨⟨j,h2⟩,_⟩
      .exact .inr h2
      .exact .inl (hcore.mt j b h2)
    lept:=fun i b hb=>by
     obtain⟨hi,hb'⟩:=hFp i b hb;exact hgN.farp i b (hlo i hi).1 hb'
    leow:=fun i x hx=>by
     obtain⟨hi,hx'⟩:=hFw i x hx;rcases hgN.farw i x (hlo i hi).1 hx' with h1|h1
     .exact .inl h1
     .rcases(znf hfar' i hi).2 with h2|h2
      .omega
      .refine .inr ⟨h2,fun b hb=>?_⟩;have hbl:bl ptN owN i=some b:=by
        unfold bl;rw[hgN.ptow hx',hx'];cases x<;>first|exact hb|(simp[vbl]at hb;done)|(rename_i ao _ _;cases ao<;>first|exact hb|(simp[vbl]at hb;done))
       rcases hgN.loc i b hbl with h3|⟨h3,_⟩
       .exact .inl h3
       .exact .inr h3}
 refine callsIn_wide.1 (callsIn_of_wp_marks (n:=0) hf hb trivial (hk.sem c0 _ _ _ hrel fun e G a w' hr hK=>?_))
 cases e with
 |normal=>exact hfin G a w' hr hK
 |ret=>exact hfin G a w' hr hK
 | _=>exact hK.elim
end
structure Tri(P:Program)(c:Code)(G:St)(K:Exit->St->Prop):Prop where
 run:∀(c0:Ctx)(a:Act)(w:World)(Q:Exit->Act->World->Prop),Rel c0 G a w->(∀e G a w,Rel c0 G a w->K e G->Q e a w)->c.wpIn qF 0 P Q a w
section
variable {P:Program} {T:Tab}
theorem zzt{x y:Code}{G:St}{n m:St->Prop}{e:Nat->St->Prop}{r:St->Prop}(h1:Tri P x G (K3 m e r))(h2:∀U,m U->Tri P y U (K3 n e r)):Tri P (.seq x y) G (K3 n e r):=by
 refine⟨fun c0 a w Q hr hq=>wpIn_seq (h1.run c0 a w _ hr fun ex U a w hr hk=>?_)⟩
 cases ex with
 |normal=>exact(h2 U hk).run c0 a w Q hr hq
 |exit i=>exact hq _ _ _ _ hr hk
 |ret=>exact hq _ _ _ _ hr hk
 | _=>exact hk.elim
theorem zn5{x:Code}{G:St}{K K':Exit->St->Prop}(h:Tri P x G K)(hk:∀e U,K e U->K' e U):Tri P x G K':=
 ⟨fun c0 a w Q hr hq=>h.run c0 a w Q hr fun e U a w hr h=>hq e U a w hr (hk e U h)⟩
theorem zre{id:Nat}{x:Code}{G:St}{n:St->Prop}{e:Nat->St->Prop}{r:St->Prop}
 (h:Tri P x G (K3 n (fun i G=>match q2 i id with|true=>n G|false=>e i G) r)):Tri P (.block id x) G (K3 n e r):=by
 refine⟨fun c0 a w Q hr hq=>wpIn_block (h.run c0 a w _ hr fun ex U a w hr hk=>?_)⟩
 cases ex with
 |normal=>exact hq _ _ _ _ hr hk
 |exit i=>
  have hk:(match q2 i id with|true=>n U|false=>e i U):=hk;simp only[Exit.inBlock]
  cases e2:q2 i id with
  |true=>simp only[e2]at hk;rw[Z6 ((zd _ _).1 e2)];exact hq _ _ _ _ hr hk
  |false=>simp only[e2]at hk;rw[Z7 ((zt _ _).1 e2)];exact hq _ _ _ _ hr hk
 |ret=>exact hq _ _ _ _ hr hk
 | _=>exact hk.elim
theorem zvl{x:Code}{G:St}{n:St->Prop}{e:Nat->St->Prop}{r:St->Prop}{X:Type}(σm:X->St)(I:X->Prop)(μ:X->Nat)(x₀:X)(h0:I x₀)(hle:leS G (σm x₀))(hfr:∀x,I x->zde (zeh (σm x).hp) (σm x).ids =true)
 (h:∀y,I y->Tri P x (σm y) (K3 (fun U=>∃y',I y'/\μ y'<μ y/\leS U (σm y')) e r)):Tri P (.loop x) G (K3 n e r):=by
 refine⟨fun c0 a w Q hr hq=>?_⟩;refine zdm (F:=⟨qF,.inl rfl⟩) (I:=I) (J:=fun y a w=>Rel c0 (σm y) a w) (μ:=μ) h0 (hr.weaken hle (hfr x₀ h0)) fun y a' w' hy hj=>?_
 refine(h y hy).run c0 a' w' _ hj fun ex U a w hr hk=>?_
 cases ex with
 |normal=>
  obtain⟨y',hy',hlt,hle⟩:=hk;exact⟨y',hy',hr.weaken hle (hfr y' hy'),hlt⟩
 |exit i=>exact hq _ _ _ _ hr hk
 |ret=>exact hq _ _ _ _ hr hk
 | _=>exact hk.elim
theorem zjw(hT:TabOK P T){c:Ctx}{ops:Array Oper}{rest:List Oper}{Q:Exit->Act->World->Prop}{K:St->Prop}(hQ:∀G a w,Rel c G a w->K G->wpListIn qF 0 P ops Q rest a w):
 ∀(l:List Oper)(G:St)(a:Act)(w:World),Rel c G a w->zyi T (CN P) ops.toList l G K->wpListIn qF 0 P ops Q (l++rest) a w
 | [],G,a,w,h,hk=>hQ G a w h hk
 |o::l,G,a,w,h,hk=>by
  simp only[zyi,opK1]at hk;rw[List.cons_append];refine wpListIn_step fun K' hK'=>?_
  rcases jw h hk with ⟨hw,hk⟩|⟨hw,hk⟩
  .rw[Z6 hw];obtain⟨σ',hk',hwp⟩:=zii (F:=⟨qF,.inl rfl⟩) hT h hk;exact Oper.wpIn_mono (fun a' w' hr=>hK' _ _ (zjw hT hQ l σ' a' w' hr hk')) (hwp Q)
  .rw[Z7 (by rw[hw];simp)];rw[zaa]at hk;exact⟨fun f _=>(Wf.mk qF (.inl rfl)).ok.fn f,hK' _ _ (zjw hT hQ l _ _ _ (h.skip o) hk)⟩
def qev:Blk->Bool
 |.dead =>true
 | _=>false
def zrl(hp:Hp)(i j:Nat):Bool:=
 zzy [(i,j)]&&(q4 j 999999||q4 1000000 i)&&(q4 i 999999||(q4 1500000 i&&q4 i 1999998))&&qev (hget hp i)&&(hget hp j).isBuf
theorem Rel.swap{c:Ctx}{sl:List AV}{hp:Hp}{a:Act}{w:World}(h:Rel c ⟨sl,hp⟩ a w){i j:Nat}(hok:zrl hp i j=true):Rel c ⟨xw (sw [(i,j)]) sl,zew (sw [(i,j)]) hp⟩ a w:=by
 obtain⟨M,pt,ow,S,hg,hs,hd⟩:=h;simp only[zrl,q1,q3]at hok;obtain⟨⟨⟨⟨h1,h2⟩,h3⟩,h4⟩,h5⟩:=hok;have hff:∀x,sw [(i,j)] (sw [(i,j)] x)=x:=fun x=>zvq x h1
 have hhi:∀x,1999999<=x->sw [(i,j)] x=x:=fun x hx=>zzx h1 hx
 have hsw:∀x,sw [(i,j)] x=if x=i then j else if x=j then i else x:=fun x=>by
  simp only[sw]
  cases e1:q2 x i with
  |true=>rw[Z6 ((zd _ _).1 e1)]
  |false=>
   rw[Z7 ((zt _ _).1 e1)]
   cases e2:q2 x j with
   |true=>rw[Z6 ((zd _ _).1 e2)]
   |false=>rw[Z7 ((zt _ _).1 e2)]
 have hdead:hget hp i=.dead :=by
  cases e:hget hp i<;>first|rfl|(rw[e]at h4;cases h4)
 have hpi:pt i=none:=hg.ptn (by rw[hdead];rfl);have hoi:ow i=none:=hg.own (by rw[hdead];rfl);have hpj:pt j=none:=hg.ptn (by
  cases e:hget hp j<;>first|rfl|(rw[e]at h5;cases h5))
 have hj1:q4 j 999999=true->j<=999999:=q0;have hc:=hg.toCore.domap (sw [(i,j)]) hff hhi;have hbl:∀x b,bl (fun x=>pt (sw [(i,j)] x)) (fun x=>ow (sw [(i,j)] x)) x=some b->(x=i/\bl pt ow j=some b)\/(x≠i/\x≠j/\bl pt ow x=some b):=fun x b hb=>by
  have hb:bl pt ow (sw [(i,j)] x)=some b:=hb;rw[hsw]at hb;by_cases e1:x=i
  .rw[Z6 e1]at hb;exact .inl ⟨e1,hb⟩
  .rw[Z7 e1]at hb;by_cases e2:x=j
   .rw[Z6 e2]at hb;unfold bl at hb;rw[hpi,hoi]at hb;cases hb
   .rw[Z7 e2]at hb;exact .inr ⟨e1,e2,hb⟩
 refine⟨M,fun x=>pt (sw [(i,j)] x),fun x=>ow (sw [(i,j)] x),S,?_,?_,hd⟩
 .exact {hc with
   os:=hg.os,tape:=hg.tape,output:=hg.output,size:=hg.size,keep:=hg.keep,m0:=hg.m0,m1:=hg.m1,gl:=hg.gl
   loc:=fun x b hb=>by
    rcases hbl x b hb with ⟨rfl,h6⟩|⟨_,_,h6⟩
    .rcases hg.loc j b h6 with h7|⟨h7,h8⟩
     .exact .inl h7
     .rcases h2 with h2|h2
      .have:=q0 h2;omega
      .exact .inr ⟨h7,q0 h2⟩
    .exact hg.loc x b h6
   farp:=fun x b hx hb=>by
    have hb:pt (sw [(i,j)] x)=some b:=hb;rw[hsw]at hb;by_cases e1:x=i
    .rw[Z6 e1,hpj]at hb;cases hb
    .rw[Z7 e1]at hb;by_cases e2:x=j
     .rw[Z6 e2,hpi]at hb;cases hb
     .rw[Z7 e2]at hb;exact hg.farp x b hx hb
   farw:=fun x b hx hb=>by
    have hb:ow (sw [(i,j)] x)=some b:=hb;rw[hsw]at hb;by_cases e1:x=i
    .subst e1;rcases h3 with h3|h3
     .have:=q0 h3;omega
     .exact .inr ⟨q0 h3.1,q0 h3.2⟩
    .rw[Z7 e1]at hb;by_cases e2:x=j
     .rw[Z6 e2,hoi]at hb;cases hb
     .rw[Z7 e2]at hb;exact hg.farw x b hx hb}
 .intro pt3 ow3 hag;have hag4:Agr hp pt (fun x=>pt3 (sw [(i,j)] x)) ow (fun x=>ow3 (sw [(i,j)] x)):=fun x hx=>by
   have:=hag (sw [(i,j)] x) (by
    show(hget (zew (sw [(i,j)]) hp) (sw [(i,j)] x)).isFree =false;rw[jg _ _ hff,zda];exact hx)
   simp only[hff]at this;exact this
  obtain⟨h6,h7⟩:=hs _ _ hag4;refine⟨(Rs.mapI sl _ fun x _=>⟨rfl,rfl⟩).2 h6,fun x l b cs Ty hl hb hcs=>?_⟩;have hl:hget (zew (sw [(i,j)]) hp) x=.cells l:=hl;have hq:=jg (H:=hp) (i:=sw [(i,j)] x) (sw [(i,j)]) (sw [(i,j)]) hff;rw[hff,hl]at hq;obtain⟨m,hm,rfl⟩:=zch hq.symm;exact(Rs.mapI m _ fun x _=>⟨rfl,rfl⟩).2 (h7 _ m b cs Ty hm hb hcs)
theorem zdt{res:List ResultVar}{ex:List Nat}{rv:AV}{H':Hp}{c:Code}{sl:List AV}{hp:Hp}(i j:Nat)(hok:zrl hp i j=true)(h:SemOK P T res ex rv H' c ⟨xw (sw [(i,j)]) sl,zew (sw [(i,j)]) hp⟩):SemOK P T res ex rv H' c ⟨sl,hp⟩:=
 ⟨fun c0 a w Q hr hq=>h.sem c0 a w Q (hr.swap hok) hq⟩
abbrev RM4:=St->(St->Prop)->(Nat->St->Prop)->(St->Prop)->Prop
noncomputable def zm1(P:Program)(T:Tab)(sp:List Nat)(id:Nat)(ops:Array Oper)(draw:Bool):RM4:=fun G n e r=>match zev id sp with
 |true=>Tri P (.region id ops draw) G (K3 n (fun _ _=>False) (fun _=>False))
 |false=>zsb T (CN P) id ops draw true G n e r
def qSeq(_ _:Code)(iha ihb:RM4):RM4:=fun G n e r=>iha G (fun G=>ihb G n e r) e r
def qaf(c:Operand)(_ _:Code)(iha ihb:RM4):RM4:=fun G n e r=>match zm G.sl c with
    |.bool t=> @Bool.rec (fun _=>Prop) (ihb G n e r) (iha G n e r) t
    |.ub p q=>(p->iha G n e r)/\(q->ihb G n e r)
    | _=>False
def qd9(id:Nat)(_:Code)(ih:RM4):RM4:=fun G n e r=>ih G n (fun i G=>match q2 i id with
 |true=>n G
 |false=>e i G) r
def qae(T:Tab)(c:Code)(ih:RM4):RM4:=fun G _ e r=>∃(X:Type)(I:X->Prop)(us:X->List (Nat×AV))(hu:X->List (Nat×Blk))(μ:X->Nat)(x₀:X),
 I x₀/\(zfj (jn c) fun ws=>zfj (ze T c) fun ds=>zpf ws ds (us x₀) (hu x₀) G (fun U=>leS G U))/\
 ∀x,I x->zfj (jn c) fun ws=>zfj (ze T c) fun ds=>zpf ws ds (us x) (hu x) G fun U=>zde (zeh U.hp) U.ids=true/\
  ih U (fun σ'=>∃x',I x'/\μ x'<μ x/\zpf ws ds (us x') (hu x') G fun τ'=>leS σ' τ') e r
def qNo:RM4:=fun _ _ _ _=>False
noncomputable def zmf(P:Program)(T:Tab)(sp:List Nat)(c:Code):RM4:=
 @Code.rec (fun _=>RM4) (fun G n _ _=>n G) (zm1 P T sp) qSeq qaf qd9 (qae T) (fun _ _ _ _ _ _=>qNo) (fun id G _ e _=>e id G) (fun _ _=>qNo) (fun _=>qNo) (fun _=>qNo) (fun G _ _ r=>r G) (fun _=>qNo) c
theorem un(hT:TabOK P T)(hmx:P.follows .mixedOrders =true)(sp:List Nat):∀(c:Code)(G:St)(n:St->Prop)(e:Nat->St->Prop)(r:St->Prop),zmf P T sp c G n e r->Tri P c G (K3 n e r):=by
 have hw:∀(c:Code)(G:St)(n:St->Prop)(e:Nat->St->Prop)(r:St->Prop),zau T (CN P) c true G n e r->Tri P c G (K3 n e r):=fun c G n e r h=>by
  rw[zkl,zkk]at h;exact⟨fun c0 a w Q hr hq=>qw hT hmx c true ⟨qF,.inl rfl⟩ c0 _ _ _ a w (fun _=>rfl) hr h hq⟩
 intro c
 induction c with
 |skip=>intro G n e r h;exact hw .skip G n e r h
 |region id ops draw=>
  intro G n e r h;have h:zm1 P T sp id ops draw G n e r:=h;unfold zm1 at h;split at h
  .exact zn5 h fun ex U hk=>by
    cases ex with
    |normal=>exact hk
    | _=>exact hk.elim
  .exact hw (.region id ops draw) G n e r h
 |seq a b iha ihb=>
  intro G n e r h;exact zzt (iha G (fun G=>zmf P T sp b G n e r) e r h) fun U hτ=>ihb U n e r hτ
 |cond c a b iha ihb=>
  intro G n e r h;have h:qaf c a b (zmf P T sp a) (zmf P T sp b) G n e r:=h;unfold qaf at h;refine⟨fun c0 ac w Q hr hq=>?_⟩;obtain⟨_,_,_,_,_,_,hrs⟩:=hr.own;have hb:=zc hrs c;split at h
  .rename_i t htt;rw[htt]at hb;simp only[R]at hb;refine wpIn_cond hb ?_
   cases t with
   |true=>exact(iha G n e r h).run c0 ac w Q hr hq
   |false=>exact(ihb G n e r h).run c0 ac w Q hr hq
  .rename_i p q htt;rw[htt]at hb;simp only[R]at hb;obtain⟨t,hb,h1,h2⟩:=hb;refine wpIn_cond hb ?_
   cases t with
   |true=>exact(iha G n e r (h.1 (h1 rfl))).run c0 ac w Q hr hq
   |false=>exact(ihb G n e r (h.2 (h2 rfl))).run c0 ac w Q hr hq
  .exact h.elim
 |block id c ih=>
  intro G n e r h;exact zre (ih G n _ r h)
 |loop c ih=>
  intro G n e r h;have h:qae T c (zmf P T sp c) G n e r:=h;unfold qae at h;obtain⟨X,I,us,hu,μ,x₀,h0,hin,zix⟩:=h;simp only[zkb]at hin zix;rw[zcn]at hin;have hr0:=fun x hx=>(zcn _ _ _ _ _ _).1 (zix x hx)
  refine zvl (fun y=>gen (jn c) (ze T c) (us y) (hu y) G) I μ x₀ h0 hin (fun x hx=>(hr0 x hx).1) fun y hy=>?_
  refine zn5 (ih _ _ e r (hr0 y hy).2) fun ex U hk=>?_
  cases ex with
  |normal=>
   obtain⟨y',hy',hlt,hle⟩:=hk;rw[zcn]at hle;exact⟨y',hy',hlt,hle⟩
  |exit i=>exact hk
  |ret=>exact hk
  | _=>exact hk.elim
 |exit id=>intro G n e r h;exact hw (.exit id) G n e r h
 |ret=>intro G n e r h;exact hw .ret G n e r h
 |rangeFunc f ps a b _ _=>intro G n e r h;exact h.elim
 |scope b _=>intro G n e r h;exact h.elim
 |label l=>intro G n e r h;exact h.elim
 |goto l=>intro G n e r h;exact h.elim
 |refuse w=>intro G n e r h;exact h.elim
theorem zb9(hT:TabOK P T)(hmx:P.follows .mixedOrders =true)(sp:List Nat){res:List ResultVar}{ex:List Nat}{r:AV}{H':Hp}{c:Code}{sl:List AV}{hp:Hp}
 (h:zkd sl fun sl=>ztx hp fun hp=>zmf P T sp c ⟨sl,hp⟩ (fun G=>ze3 T res ex r H' G) (fun _ _=>False) (fun G=>ze3 T res ex r H' G)):SemOK P T res ex r H' c ⟨sl,hp⟩:=by
 rw[vf,um]at h;have:=un hT hmx sp c _ _ _ _ h;rw[zyw]at this;exact⟨fun c0 a w Q hr hq=>this.run c0 a w Q hr hq⟩
end
theorem zoa{P:Program}{w:World}{a b:Value}(h:qN 10000 a b=true):(qM a b).run P w=.ok b w:=by
 unfold qM;rw[Z6 h,qJ]
theorem zhb{P:Program}{k:IntKind}(x:Int):∀(ks:List Int)(es:List MapEntry)(i:Nat),es.map (·.key)=ks.map (zbe .int)->qI (.int k) (zbe .int x) es i=some (zhc .int x ks es i)
 | [],[],_,_=>rfl
 | [],_::_,_,h=>by simp at h
 | _::_,[],_,h=>by simp at h
 |y::ks,e::es,i,h=>by
  simp only[List.map_cons,List.cons.injEq]at h;simp only[qI,h.1,zbe,qO,zhc,zqo,if_true];cases x==y
  .simp only[cond_false];exact zhb (P:=P) x ks es (i+1) h.2
  .rfl
theorem ztn{P:Program}{t:TypeId}{k:IntKind}(hu:P.underlying t=some (.int k)):KeyOK P t .int where
 kind:=.inr (.inl rfl)
 chk w b x:=by
  show(qK b (9999+1) t (zbe .int x)).run P w=_;unfold qK;simp only[qH,zaj hu,qG,zbe,qJ]
 fnd w x ks es h:=by simp only[qL,qH,zaj hu,qG,zhb (P:=P) x ks es 0 h,qJ]
 stays w x y h:=by
  have:x=y:=by simpa[zqo]using h
  subst this;refine zoa ?_;show(IntKind.i64==IntKind.i64&&x==x)=true;simp
def opZ:List AV:= [.int .i64 0,.int .i64 0,.int .i64 0,.int .i64 0,.int .i64 0,.int .i64 0]
theorem zne(o:TOp):zbe .op o=.agg #[.int .i64 o.k,.int .i64 o.a,.int .i64 o.b,.int .i64 o.n,.int .i64 o.c.n,.int .i64 o.c.d]:=rfl
theorem zwg{P:Program}{t:TypeId}(heq:zxy P t opZ)(x y:TOp)(w:World):(Op.equal t (zbe .op x) (zbe .op y)).run P w=.ok (x==y) w:=by
 obtain⟨r,h1,h2⟩:=heq.2 (Elt.op.cells x) (Elt.op.cells y) (fun r=>r=(x==y)) ⟨fun _ _=>False,fun _=>none,fun _=>none⟩ #[.int .i64 x.k,.int .i64 x.a,.int .i64 x.b,.int .i64 x.n,.int .i64 x.c.n,.int .i64 x.c.d]
  #[.int .i64 y.k,.int .i64 y.a,.int .i64 y.b,.int .i64 y.n,.int .i64 y.c.n,.int .i64 y.c.d] (by
    simp only[opZ,Elt.cells,eqZ];obtain⟨k,a,b,n,⟨c,d⟩⟩:=x;obtain⟨k',a',b',n',⟨c',d'⟩⟩:=y;rw[Bool.eq_iff_iff];simp) ⟨rfl,rfl,rfl,rfl,rfl,rfl,trivial⟩ ⟨rfl,rfl,rfl,rfl,rfl,rfl,trivial⟩
 rw[zne,zne,h2 w,h1]
theorem zej{P:Program}{t:TypeId}(heq:zxy P t opZ)(x:TOp)(w:World):∀(ks:List TOp)(es:List MapEntry)(i:Nat),es.map (·.key)=ks.map (zbe .op)->(Instr.findAsking t (zbe .op x) es i).run P w=.ok (zhc .op x ks es i) w
 | [],[],_,_=>rfl
 | [],_::_,_,h=>by simp at h
 | _::_,[],_,h=>by simp at h
 |y::ks,e::es,i,h=>by
  simp only[List.map_cons,List.cons.injEq]at h;simp only[Instr.findAsking,qH,h.1,zwg heq,qG,zhc,zqo];cases x==y
  .simp only[cond_false,qA,if_false];exact zej heq x w ks es (i+1) h.2
  .simp only[cond_true,if_true,qJ]
theorem zww{P:Program}{t:TypeId}{F:Array Field}(hu:P.underlying t=some (.struct F))(heq:zxy P t opZ)(hc:∀(w:World)(b:Bool)(x:TOp),(qK b 10000 t (zbe .op x)).run P w=.ok () w):KeyOK P t .op where
 kind:=.inr (.inr rfl)
 chk:=hc
 fnd w x ks es h:=by
  have hn:∀(es:List MapEntry),qI (.struct F) (zbe .op x) es 0=none\/es= []:=fun es=>by
   cases es with
   |nil=>exact .inr rfl
   |cons e es=>left;simp[qI,qO]
  rcases hn es with hn|rfl
  .simp only[qL,qH,zaj hu,qG,hn];exact zej heq x w ks es 0 h
  .cases ks with
   |nil=>simp only[qL,qH,zaj hu,qG];rfl
   |cons _ _=>simp at h
 stays w x y h:=by
  have:x=y:=by simpa[zqo]using h
  subst this;refine zoa ?_;simp[zne,qN]
def zwx(P:Program)(ko ki:Nat)(T:List (Nat×TI)):List (Nat×TI)->Bool
 | []=>true
 |(_,i)::r=>(!q2 i.cls 9||((match P.underlying i.e with
  |some .string =>true
  | _=>false)&&T.all fun x=> !q2 x.1 i.e||(match x.2.k with
    |some .str =>true
    |none=>true
    | _=>false))||(q2 i.e ko&&T.all fun x=> !q2 x.1 i.e||(match x.2.k with
    |some .op =>true
    |none=>true
    | _=>false))||(q2 i.e ki&&T.all fun x=> !q2 x.1 i.e||(match x.2.k with
    |some .int =>true
    |none=>true
    | _=>false)))&&zwx P ko ki T r
theorem zo6{P:Program}{ko ki:Nat}(ho:KeyOK P ko .op)(hi:KeyOK P ki .int){T:List (Nat×TI)}:∀ {L:List (Nat×TI)},zwx P ko ki T L=true->∀t i,(t,i)∈L->i.cls=9->∀j kk,(i.e,j)∈T->j.k=some kk->KeyOK P i.e kk
 | [],_,_,_,h,_,_,_,_,_=>by simp at h
 |(u,x)::r,h,t,i,hm,hc,j,kk,hj,hk=>by
  simp only[zwx,q1]at h;rcases List.mem_cons.1 hm with e|hm
  .cases e
   have h1:=h.1;rw[hc]at h1;simp only[q3,qC,q1,List.all_eq_true]at h1;rcases h1 with ((h1|⟨h1,h2⟩)|⟨h1,h2⟩)|⟨h1,h2⟩
   .exact absurd h1 OA
   .rcases h2 _ hj with h3|h3
    .rw[(zd _ _).2 rfl]at h3;cases h3
    .simp only[hk]at h3;have:kk=.str :=by cases kk<;>simp_all
     subst this;split at h1
     .rename_i hu;exact zlr hu
     .cases h1
   .rcases h2 _ hj with h3|h3
    .rw[(zd _ _).2 rfl]at h3;cases h3
    .simp only[hk]at h3;have:kk=.op :=by cases kk<;>simp_all
     subst this;rw[(zd _ _).1 h1];exact ho
   .rcases h2 _ hj with h3|h3
    .rw[(zd _ _).2 rfl]at h3;cases h3
    .simp only[hk]at h3;have:kk=.int :=by cases kk<;>simp_all
     subst this;rw[(zd _ _).1 h1];exact hi
  .exact zo6 ho hi h.2 t i hm hc j kk hj hk
theorem zmp{P:Program}{T:Tab}{ko ki:Nat}(ho:KeyOK P ko .op)(hi:KeyOK P ki .int)(h:qdq P T.ty=true)(hk:zwx P ko ki T.ty T.ty=true):TabOK P T:=⟨zmq h,zo6 ho hi hk⟩
def OpT(P:Program)(o:Oper)(G σ':St):Prop:=o.guard=none/\∀(c0:Ctx)(a:Act)(w:World)(Q:Exit->Act->World->Prop),Rel c0 G a w->o.wpIn qF 0 P a w (Rel c0 σ') Q
def depB(ops:Array Oper):Bool:=(List.range ops.size).all fun i=>match ops[i]? with
 |some o=>o.after.all fun e=> !Region.binds .any e||Nat.blt e.on i
 |none=>true
def je(L:Nat->Bool)(i:Nat):Nat->Bool:=fun j=>bif q2 j i then true else L j
section
variable {P:Program} {T:Tab}
theorem ka(hT:TabOK P T){o:Oper}{G σ':St}(hg:o.guard=none)(h:zno T (CN P) o G fun U=>U=σ'):OpT P o G σ':=by
 refine⟨hg,fun c0 a w Q hr=>?_⟩;obtain⟨r,bs,h1,h2⟩:=zdg (F:=⟨qF,.inl rfl⟩) hT hr h;rw[h1]at h2;exact h2 Q
theorem OpT.sound{ops:Array Oper}{Q:Exit->Act->World->Prop}{i:Nat}{o:Oper}{G σ':St}(hi:ops[i]? =some o)(h:OpT P o G σ'){c0:Ctx}{a:Act}{w:World}(hr:Rel c0 G a w){K:Act->World->Prop}(hK:∀a w,Rel c0 σ' a w->K a w):
 wpOpIn qF 0 P ops Q i K a w:=by
 unfold wpOpIn;simp only[hi];rcases jw hr (ops:=ops) (run:=fun _=>True) (skip:=fun _=>False) (o:=o) (by unfold zat;rw[h.1];trivial)with ⟨hw,_⟩|⟨_,hk⟩
 .rw[Z6 hw];exact Oper.wpIn_mono hK (h.2 c0 a w Q hr)
 .exact hk.elim
theorem zmc{ops:Array Oper}(h:depB ops=true){i:Nat}{o:Oper}(ho:ops[i]? =some o){e:Edge}(he:e∈o.after)(hb:Region.binds .any e=true):e.on<i:=by
 unfold depB at h;rw[List.all_eq_true]at h;have hi:=(Array.getElem?_eq_some_iff.1 ho).1;have h1:=h i (List.mem_range.2 hi);rw[ho]at h1;simp only[Array.all_eq_true_iff_forall_mem]at h1;have h2:=h1 e he;simp only[q3,qC,hb,Bool.true_eq_false,false_or]at h2;rw[qE]at h2;exact h2
def qfp(listed:Array Bool)(n:Nat):Nat:=(List.range n).countP fun i=> !listed.getD i true
theorem zpt{listed:Array Bool}{n i:Nat}(hi:i<n)(hu:listed.getD i true=false):qfp (listed.setIfInBounds i true) n<qfp listed n:=by
 unfold qfp;have hle:∀l:List Nat,(l.countP fun j=> !(listed.setIfInBounds i true).getD j true)<=l.countP fun j=> !listed.getD j true:=fun l=>by
  refine List.countP_mono_left fun j _ hj=>?_
  by_cases hij:i=j
  .subst hij;simp[hu]
  .rwa [getD_set_ne true hij]at hj
 have hmem:i∈List.range n:=List.mem_range.2 hi;obtain⟨s,t,hst⟩:=List.append_of_mem hmem;rw[hst,List.countP_append,List.countP_append,List.countP_cons,List.countP_cons];have h1:=hle s;have h2:=hle t;have h3:(listed.setIfInBounds i true).getD i true=true:=by
  rcases qB i listed.size with h|h
  .simp[h]
  .simp[Array.getElem?_eq_none h]
 simp only[h3,hu,Bool.not_true,Bool.not_false,if_true,qA,if_false];omega
theorem zqy{ops:Array Oper}(hdep:depB ops=true){listed:Array Bool}(hr:Region.ready .any ops listed= [])(hs:listed.size=ops.size):∀i,listed.getD i true=true:=by
 intro i
 induction i using Nat.strongRecOn with
 | _ i ih=>
   cases h:listed.getD i true with
   |true=>rfl
   |false=>
    exfalso;have hi:i<listed.size:=by
     rcases qB i listed.size with h'|h'
     .exact h'
     .simp[Array.getElem?_eq_none h']at h
    have ho:ops[i]? =some ops[i]:=Array.getElem?_eq_getElem O;have:i∈Region.ready .any ops listed:=mem_ready.2 ⟨h,_,ho,fun e he hb=>by
     have h1:=zmc hdep ho he hb;have h2:=ih e.on h1;have h3:e.on<listed.size:=O;simpa[h3]using h2⟩
    rw[hr]at this;cases this
theorem Rel.hpEq{c:Ctx}{sl:List AV}{hp hp':Hp}{a:Act}{w:World}(h:Rel c ⟨sl,hp⟩ a w)(he:∀i,hget hp' i=hget hp i):Rel c ⟨sl,hp'⟩ a w:=by
 obtain⟨M,pt,ow,S,hg,hs,hd⟩:=h;refine⟨M,pt,ow,S,?_,fun pt' ow' hag=>?_,hd⟩
 .exact {hg with
   dpt:=fun i b hb=>by
    show(hget hp' i).isPt =true;rw[he];exact hg.dpt i b hb
   dow:=fun i b hb=>by
    show(hget hp' i).isBuf =true;rw[he];exact hg.dow i b hb
   blk:=fun i=>by
    show uc w (zo w M) pt ow S i (hget hp' i);rw[he];exact hg.blk i}
 .have hag':Agr hp pt pt' ow ow':=fun i hi=>hag i (by
   show(hget hp' i).isFree =false;rw[he];exact hi)
  obtain⟨h1,h2⟩:=hs pt' ow' hag';refine⟨h1,fun i l b cs Ty hl hb hcs=>h2 i l b cs Ty ?_ hb hcs⟩;have hl:hget hp' i=.cells l:=hl;rw[he]at hl;exact hl
def zrm(hp:Hp)(i j:Nat):Bool:=zrl hp i j&&zev i (keys hp)&&zev j (keys hp)
def swp2(i j:Nat)(G:St):St:=⟨xw (sw [(i,j)]) G.sl,zh0 (zew (sw [(i,j)]) G.hp) G.hp⟩
theorem zlq(f:Nat->Nat):∀(h:Hp),keys (zew f h)=(keys h).map f
 | []=>rfl
 |(i,b)::r=>by simp[zew,keys,zlq f r]
theorem zlp(g:Hp):∀(h:Hp),keys (zh0 g h)=keys h
 | []=>rfl
 |(i,b)::r=>by simp[zh0,keys,zlp g r]
theorem Rel.swap2{c:Ctx}{G:St}{a:Act}{w:World}(h:Rel c G a w){i j:Nat}(hok:zrm G.hp i j=true):Rel c (swp2 i j G) a w:=by
 obtain⟨sl,hp⟩:=G;simp only[zrm,q1]at hok;obtain⟨⟨h1,h2⟩,h3⟩:=hok;have hs1:=h1;simp only[zrl,q1]at hs1;have hff:∀x,sw [(i,j)] (sw [(i,j)] x)=x:=fun x=>zvq x hs1.1.1.1.1
 have h2:=(wy _ _).1 h2;have h3:=(wy _ _).1 h3;refine(h.swap h1).hpEq fun x=>?_
 by_cases hk:uh hp x
 .exact zg0 _ hk
 .have e1:∀(H:Hp),¬uh H x->hget H x=.dead :=fun H hn=>by
   cases e:hget H x<;>first|rfl|exact absurd (zr (by rw[e];simp)) hn
  have hkx:x∉keys hp:=fun hx=>hk (za4.1 hx)
  refine(e1 _ fun hx=>?_).trans (e1 _ fun hx=>?_).symm
  .have:=za4.2 hx;rw[zlp]at this;exact hkx this
  .have:=za4.2 hx;rw[zlq]at this;obtain⟨y,hy,hyx⟩:=List.mem_map.1 this;have hy2:y=sw [(i,j)] x:=by rw[<-hyx,hff]
   have hsw:sw [(i,j)] x=if x=i then j else if x=j then i else x:=by
    simp only[sw]
    cases e1:q2 x i with
    |true=>rw[Z6 ((zd _ _).1 e1)]
    |false=>
     rw[Z7 ((zt _ _).1 e1)]
     cases e2:q2 x j with
     |true=>rw[Z6 ((zd _ _).1 e2)]
     |false=>rw[Z7 ((zt _ _).1 e2)]
   rw[hsw]at hy2;split at hy2
   .rename_i e;rw[e]at hkx;exact hkx h2
   .split at hy2
    .rename_i e;rw[e]at hkx;exact hkx h3
    .rw[hy2]at hy;exact hkx hy
theorem zbg{x:Code}{G:St}{n:St->Prop}{e:Nat->St->Prop}{r:St->Prop}(i j:Nat)(h:Tri P x G (K3 (fun U=>zrm U.hp i j=true/\n (swp2 i j U)) e r)):Tri P x G (K3 n e r):=by
 refine⟨fun c0 a w Q hr hq=>h.run c0 a w Q hr fun ex U a w hr hk=>?_⟩
 cases ex with
 |normal=>exact hq .normal _ a w (hr.swap2 hk.1) hk.2
 |exit i=>exact hq _ _ _ _ hr hk
 |ret=>exact hq _ _ _ _ hr hk
 | _=>exact hk.elim
end
theorem zcz.bool{V:kf}{u:Bool}{v:Value}(h:zcz V .bool u v):v=.bool u:=by
 obtain⟨vs,h1,h2,h3⟩:=h
 match vs,h1 with
 | [y],_=>
   have:=h3 0 (.bool u) y rfl rfl;cases this
   exact h2
section
variable {P:Program}
theorem OpT.to{o:Oper}{G U σ':St}(h:OpT P o G U)(e:U=σ'):OpT P o G σ':=e▸h
end
section
variable {P:Program} {T:Tab}
end
theorem zue{M:Nat->Prop}{pt:Nat->Option Nat}{ow:Nat->Option Value}{S:Nat->Prop}{H:Hp}{w:World}(hg:zlc (zqv H)=true)(h:Core M pt ow S H w):Core M pt ow (fun _=>False) H w:= {
 fresh:=h.fresh,mt:=h.mt,inj:=h.inj,gm:=fun b hb=>hb.elim,gd:=fun i b _ hb=>hb,dpt:=h.dpt,dow:=h.dow
 blk:=fun i=>by
  have h1:=h.blk i;have h2:=zlb hg i
  revert h1 h2
  generalize hget H i=b;intro h1 h2
  cases b with
  |gst J=>exact absurd rfl (h2 J)
  |free=>trivial
  |dead=>trivial
  |cells l=>exact h1
  |buf e k xs=>exact h1
  |map kk vk m=>exact h1}
theorem zcp{P:Program}{f:Nat}{H H':Hp}{A:List AV}{r:AV}(hg:zlc (zqv H)=true)(h:FnRB P f [] H A r H'):zh8 P f H A r H':=by
 refine⟨h.1,fun w M pt ow S vs hcore hcont hargs=>(h.2 w M pt ow vs (zue hg hcore) hcont hargs).mono ?_⟩;rintro e w' ⟨v,M',pt',ow',he,hc,hk,hr,hL⟩;exact⟨v,M',pt',ow',fun _=>False,he,hc,hk,hr,hL.os,hL.tape,hL.output,hL.size,fun b hb hn _=>hL.same b hb hn,hL.mm,hL.mn,fun b hb=>hb.elim,
  fun i b hb=>.inl (hL.lept i b hb),fun i x hx=>(hL.leow i x hx).elim .inl fun h=>by cases h.1⟩
