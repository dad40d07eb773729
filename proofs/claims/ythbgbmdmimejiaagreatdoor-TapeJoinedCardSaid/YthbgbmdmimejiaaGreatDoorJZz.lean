/- A walk in parts: the body is cut behind some of its statements; each part is carried out by itself, from a state that says no more than the rest wants. -/
import Derived.Test.YthbgbmdmimejiaaGreatDoorJSxY
set_option linter.all false
open Array renaming getElem?_eq_none->q7,getElem?_eq_some_iff->qA,replicate->qC,foldl_toList->qI,ext'->qQ
open Bool renaming and_eq_true->q1,false_eq_true->q2,or_eq_true->q9,not_eq_true'->qL
open List renaming mem_cons->q3,mem_singleton->q6,mem_append->q8,getElem?_eq_some_iff->qE,cons_append->qF,map_cons->qH,countP_append->qK,getElem_mem->qM,all_eq_true->qN,countP_cons->qO,nodup_cons->qP,range->qS,mem_range->qT,mem_map->qU
open Nat renaming le_of_ble_eq_true->q0,ble->q4,beq->q5,le_trans->qB,lt_or_ge->qD,le_refl->qG,lt_of_lt_of_le->qJ,blt_eq->qR,blt->qV
open Go.Fence renaming wide->qW
open Go.Instr renaming findNow->w9,checkKey->we,findKey->wi,keyThatStays->wn,sameBits->wB,sameNow->wC
open Go.Region renaming binds->w8,ready->wD
open Go.Result renaming andThen_ok->qX
open Go.Sem renaming run_bind->w5,run_pure->w7
open Go.World renaming putObj->qY,putObj_heap_same->qZ,alloc_heap_new->w6,size_alloc->wA
namespace Go.Sx
open Go
def Fin(T:Tab)(res:List ResultVar)(ex:List Nat)(r:AV)(H':Hp):Exit->St->Prop:=fun e G=>match e with
 |.normal =>zdp T res ex r H' G
 |.ret =>zdp T res ex r H' G
 | _=>False
structure SemOK(P:Program)(T:Tab)(res:List ResultVar)(ex:List Nat)(r:AV)(H':Hp)(c:Code)(G:St):Prop where
 sem:∀(c0:Ctx)(a:Act)(w:World)(Q:Exit->Act->World->Prop),Rel c0 G a w->(∀e G a w,Rel c0 G a w->Fin T res ex r H' e G->Q e a w)->c.wpIn qW 0 P Q a w
def fnC(T:Tab)(ex:List Nat)(c:Code)(n:Nat)(H:Hp)(A:List AV)(H':Hp)(W:St->Prop):Prop:=
 zgq (A++zbh (n-A.length)) fun sl=>zla (zbg (qa (za T c)) H) fun hp=>
  match xr (za T c) (qf A++zas H),xr (za T c) (keys H),far 0 (keys H),far ex.length (keys H'),jk (zdj H),xw (keys H'),zz3 ex&&xw ex with
  |true,true,true,true,true,true,true=>W ⟨sl,hp⟩
  | _,_,_,_,_,_,_=>False
abbrev RM3:=Bool->St->(St->Prop)->(Nat->St->Prop)->(St->Prop)->Prop
def K3(n:St->Prop)(e:Nat->St->Prop)(r:St->Prop):Exit->St->Prop:=fun x G=>match x with
 |.normal =>n G
 |.exit i=>e i G
 |.ret =>r G
 | _=>False
def sSkip:RM3:=fun _ G n _ _=>n G
noncomputable def zrm(T:Tab)(C:Con)(_:Nat)(ops:Array Oper)(draw:Bool):RM3:=fun _ G n _ _=> @Bool.rec (fun _=>Prop)
 (zxm T C ops.toList ops.toList G fun G=>ym (zut ops.toList) G n)
 (opsS T C ops.toList ops.toList G fun fps G=>zwd 0 ops.toList fps=true/\Region.lexB .any ops=true/\ym (zut ops.toList) G n) draw
def sSeq(_ _:Code)(iha ihb:RM3):RM3:=fun top G n e r=>iha top G (fun G=>ihb top G n e r) e r
def zy7(c:Operand)(_ _:Code)(iha ihb:RM3):RM3:=fun top G n e r=>match zg G.sl c with
    |.bool t=> @Bool.rec (fun _=>Prop) (ihb top G n e r) (iha top G n e r) t
    |.ub p q=>(p->iha top G n e r)/\(q->ihb top G n e r)
    | _=>False
def qcs(id:Nat)(_:Code)(ih:RM3):RM3:=fun top G n e r=>ih top G n (fun i G=>match q5 i id with
 |true=>n G
 |false=>e i G) r
def zy6(T:Tab)(c:Code)(ih:RM3):RM3:=fun top G _ e r=>∃(X:Type)(I:X->Prop)(us:X->List (Nat×AV))(hu:X->List (Nat×Blk))(μ:X->Nat)(x₀:X),
 I x₀/\(zef (jg c) fun ws=>zef (za T c) fun ds=>zob ws ds (us x₀) (hu x₀) G (fun U=>leS G U))/\
 ∀x,I x->zef (jg c) fun ws=>zef (za T c) fun ds=>zob ws ds (us x) (hu x) G fun U=>xr (zcg U.hp) U.ids=true/\
  ih top U (fun σ'=>∃x',I x'/\μ x'<μ x/\zob ws ds (us x') (hu x') G fun τ'=>leS σ' τ') e r
def zrn(T:Tab)(C:Con)(f:Operand)(ps:Array Tmp)(asg body:Code)(iha ihb:RM3):RM3:=fun top G n e r=>match top,zg G.sl f with
    |true,.fn g caps=>∃(is:List Nat)(X Y:Type)(hb:X->List Blk)(live:X->Bool)(pend:X->Code)(args:Y->List AV)(next:X->Y->X)(x₀ xE:X)(rv:AV)(ib:List Blk),
      zw G.hp is=hb x₀/\live x₀=true/\rfOk T G.hp g is caps ib=true/\xr (za T asg++za T body) (zar is)=true/\(∀x,zaf (hb x)=true/\xo is (hb x)=true)/\(∀y,znj (qf (args y))=true)/\
      (∀(l:Nat)(J:X->GJ),(∀x y,live x=true->C.cb l [(qc,.gst (J x))] (args y) (.bool (live (next x y))) [(qc,.gst (J (next x y)))])->
        C.fn g ((qc,.gst (J x₀))::zz (nub (qf caps)) (zw G.hp (nub (qf caps)))) (.cb l::caps) rv ((qc,.gst (J xE))::zz (nub (qf caps)) ib))/\
      (∀x y,live x=true->zb6 ps.toList (args y) (zb5 is G.sl) fun sl=>
        iha false ⟨sl,zbg (qa (za T asg++za T body)) (zz (zar is) (hb x))⟩ (fun U=>
         ihb false U (fun U=>live (next x y)=true/\zi5 is (hb (next x y)) U) (fun id U=>live (next x y)=false/\pend (next x y)=.exit id/\zi5 is (hb (next x y)) U)
          (fun U=>live (next x y)=false/\pend (next x y)=.ret /\zi5 is (hb (next x y)) U)) (fun _ _=>False) (fun _=>False))/\
      (match G with
        |⟨sl,hp⟩=>zab hp is (hb xE) fun hp=>zab hp (nub (qf caps)) ib fun hp=> @Bool.rec (fun _=>Prop)
          (match pend xE with
            |.exit id=>e id ⟨sl,hp⟩
            |.ret =>r ⟨sl,hp⟩
            | _=>False)
          (n ⟨sl,hp⟩) (live xE))
    | _,_=>False
def sExit(id:Nat):RM3:=fun _ G _ e _=>e id G
def sRet:RM3:=fun _ G _ _ r=>r G
def sNo:RM3:=fun _ _ _ _ _=>False
noncomputable def kz(T:Tab)(C:Con)(c:Code):RM3:=
 @Code.rec (fun _=>RM3) sSkip (zrm T C) sSeq zy7 qcs (zy6 T) (zrn T C) sExit (fun _ _=>sNo) (fun _=>sNo) (fun _=>sNo) sRet (fun _=>sNo) c
theorem ye(T:Tab)(C:Con):∀(c:Code)(top:Bool)(G:St)(n:St->Prop)(e:Nat->St->Prop)(r:St->Prop),kz T C c top G n e r=zan T C c top G (K3 n e r):=by
 intro c
 induction c with
 |skip=>intro top G n e r;rfl
 |region id ops draw=>intro top G n e r;cases draw<;>rfl
 |seq a b iha ihb=>
  intro top G n e r;show kz T C a top G (fun G=>kz T C b top G n e r) e r=zan T C a top G (fun x G=>match x with
   |.normal =>zan T C b top G (K3 n e r)
   |.exit i=>K3 n e r (.exit i) G
   |.ret =>K3 n e r .ret G
   | _=>False)
  have hk:K3 (fun G=>kz T C b top G n e r) e r=fun x G=>match x with
   |.normal =>zan T C b top G (K3 n e r)
   |.exit i=>K3 n e r (.exit i) G
   |.ret =>K3 n e r .ret G
   | _=>False:=by
   funext x G
   cases x<;>first|rfl|exact ihb _ _ _ _ _
  rw[iha,hk]
 |cond c a b iha ihb=>
  intro top G n e r;show zy7 c a b (kz T C a) (kz T C b) top G n e r=zrx c a b (zan T C a) (zan T C b) top G (K3 n e r);simp only[zy7,zrx,iha,ihb];rfl
 |block id c ih=>
  intro top G n e r;show kz T C c top G n (fun i G=>match q5 i id with|true=>n G|false=>e i G) r=zan T C c top G (fun x G=>match x with
   |.normal =>K3 n e r .normal G
   |.exit i=>match q5 i id with
     |true=>K3 n e r .normal G
     |false=>K3 n e r (.exit i) G
   |.ret =>K3 n e r .ret G
   | _=>False)
  have hk:K3 n (fun i G=>match q5 i id with|true=>n G|false=>e i G) r=fun x G=>match x with
   |.normal =>K3 n e r .normal G
   |.exit i=>match q5 i id with
     |true=>K3 n e r .normal G
     |false=>K3 n e r (.exit i) G
   |.ret =>K3 n e r .ret G
   | _=>False:=by funext x G;cases x<;>rfl
  rw[ih,hk]
 |loop c ih=>
  intro top G n e r;show zy6 T c (kz T C c) top G n e r=zrv T c (zan T C c) top G (K3 n e r);simp only[zy6,zrv,ih,ziy];have hk:∀(A:St->Prop),K3 A e r=fun x G=>match x with
   |.normal =>A G
   |.exit i=>(match Exit.exit i with|.normal =>n G|.exit i=>e i G|.ret =>r G| _=>False)
   |.ret =>(match Exit.ret with|.normal =>n G|.exit i=>e i G|.ret =>r G| _=>False)
   | _=>False:=fun A=>by funext x G;cases x<;>rfl
  simp only[hk];rfl
 |rangeFunc f ps a b iha ihb=>
  intro top G n e r;show zrn T C f ps a b (kz T C a) (kz T C b) top G n e r=zjs T C f ps a b (zan T C a) (zan T C b) top G (K3 n e r);simp only[zrn,zjs,iha,ihb];have hk:∀(A B:St->Prop)(E:Nat->St->Prop),K3 A E B=fun x G=>match x with
   |.normal =>A G
   |.exit i=>E i G
   |.ret =>B G
   | _=>False:=fun A B E=>by funext x G;cases x<;>rfl
  have hk2:∀(A:St->Prop),K3 A (fun _ _=>False) (fun _=>False)=fun x G=>match x with
   |.normal =>A G
   | _=>False:=fun A=>by funext x G;cases x<;>rfl
  cases top with
  |false=>rfl
  |true=>simp only[hk2];simp only[hk];rfl
 |exit id=>intro top G n e r;rfl
 |scope b ih=>intro top G n e r;rfl
 |label l=>intro top G n e r;rfl
 |goto l=>intro top G n e r;rfl
 |ret=>intro top G n e r;rfl
 |refuse w=>intro top G n e r;rfl
def zd1:Nat->Code->Code
 |0,c=>c
 |n+1,.seq _ y=>zd1 n y
 | _+1,c=>c
def zqv:Nat->Code->Code
 |0,_=>.skip
 |n+1,.seq x y=>.seq x (zqv n y)
 | _+1,_=>.refuse ""
def fcS:Code->(Code->Prop)->Prop
 |.seq a b,k=>fcS b fun b=>k (.seq a b)
 |c,k=>k c
theorem qak:∀(c:Code)(k:Code->Prop),fcS c k<->k c:=by
 intro c
 induction c with
 |seq a b _ ihb=>intro k;show fcS b _<->_;rw[ihb]
 | _=>intro k;exact Iff.rfl
section
variable {P:Program} {T:Tab}
theorem zky(hT:TabOK P T)(hmx:P.follows .mixedOrders =true){c:Ctx}{K:Exit->St->Prop}{Q:Exit->Act->World->Prop}:∀(n:Nat)(code:Code)(G:St)(a:Act)(w:World),
 Rel c G a w->vl T (CN P) true (zqv n code) G K->(∀G a w,Rel c G a w->K .normal G->(zd1 n code).wpIn qW 0 P Q a w)->(∀e G a w,Rel c G a w->e≠ .normal ->K e G->Q e a w)->code.wpIn qW 0 P Q a w
 |0,code,G,a,w,hr,h,hn,_=>hn G a w hr (by simpa only[zqv,vl]using h)
 |n+1,code,G,a,w,hr,h,hn,hq=>by
  cases code with
  |seq x y=>
   simp only[zqv,vl]at h;refine wpIn_seq (zy hT hmx x true ⟨qW,.inl rfl⟩ c G _ _ a w (fun _=>rfl) hr h fun e σ' a' w' hr' hk'=>?_)
   cases e with
   |normal=>exact zky hT hmx n y σ' a' w' hr' hk' hn hq
   |exit i=>exact hq _ _ _ _ hr' OC hk'
   |ret=>exact hq _ _ _ _ hr' OC hk'
   | _=>exact hk'.elim
  | _=>exact h.elim
theorem zxz(T:Tab)(res:List ResultVar)(ex:List Nat)(r:AV)(H':Hp):K3 (fun G=>zdp T res ex r H' G) (fun _ _=>False) (fun G=>zdp T res ex r H' G)=Fin T res ex r H':=by
 funext x G;cases x<;>rfl
theorem jt(hT:TabOK P T)(hmx:P.follows .mixedOrders =true){res:List ResultVar}{ex:List Nat}{r:AV}{H':Hp}{c:Code}{sl:List AV}{hp:Hp}
 (h:zgq sl fun sl=>zla hp fun hp=>kz T (CN P) c true ⟨sl,hp⟩ (fun G=>zdp T res ex r H' G) (fun _ _=>False) (fun G=>zdp T res ex r H' G)):SemOK P T res ex r H' c ⟨sl,hp⟩:=by
 rw[qk,wl,ye,yd,zxz]at h;refine⟨fun c0 a w Q hr hq=>?_⟩;exact zy hT hmx c true ⟨qW,.inl rfl⟩ c0 _ _ _ a w (fun _=>rfl) hr h hq
theorem jf(hT:TabOK P T)(hmx:P.follows .mixedOrders =true){res:List ResultVar}{ex:List Nat}{r:AV}{H':Hp}{c:Code}{sl:List AV}{hp:Hp}(n:Nat){X:Type}(σm:X->St)
 (hfr:∀x,xr (zcg (σm x).hp) (σm x).ids =true)
 (h1:zgq sl fun sl=>zla hp fun hp=>fcS (zqv n c) fun pc=>kz T (CN P) pc true ⟨sl,hp⟩ (fun G=>∃x,leS G (σm x)) (fun _ _=>False) (fun G=>zdp T res ex r H' G))
 (h2:∀x,SemOK P T res ex r H' (zd1 n c) (σm x)):SemOK P T res ex r H' c ⟨sl,hp⟩:=by
 rw[qk,wl,qak,ye,yd]at h1;refine⟨fun c0 a w Q hr hq=>?_⟩;refine zky hT hmx n c _ a w hr h1 (fun G a w hr hk=>?_) (fun e G a w hr hne hk=>?_)
 .obtain⟨x,hx⟩:=hk;exact(h2 x).sem c0 a w Q (hr.weaken hx (hfr x)) hq
 .cases e with
  |normal=>exact absurd rfl hne
  |ret=>exact hq _ _ _ _ hr hk
  | _=>exact hk.elim
variable {c:Ctx} {G:St} {a:Act} {w:World}
open Classical in
set_option maxHeartbeats 1000000 in
theorem vu(hT:TabOK P T)(hmx:P.follows .mixedOrders =true){f:Nat}{fn:Func}{code:Code}(hf:P.funcs[f]? =some fn)(hb:fn.body=some code)(hname:(fn.name== "runtime.NumGoroutine")=false)
 {ex:List Nat} {H H':Hp} {A:List AV} {r:AV} (h:fnC T ex code fn.ntmps H A H' (SemOK P T fn.results.toList ex r H' code)):zcm P f H A r H':=by
 unfold fnC at h;rw[qk,wl]at h;split at h
 case h_2=>exact h.elim
 rename_i hd1 hd2 hfar hfar' hnf hnod hex;have hk:=h;rw[qo]at hd1 hd2;rw[q1]at hex;have hexlo:=zer hex.1;have hexnd:=kj hex.2;have hnod:=kj hnod;rw[zmm]at hnf;refine⟨⟨fn,hf,by rw[hb];rfl,hname⟩,fun w M pt ow S vs hcore hcont hargs=>?_⟩
 let c0:Ctx:= {M0:=M,w0:=w,mine:=fun b=>(∃i,bl pt ow i=some b)\/S b,sm:=S,pt0:=pt,ow0:=ow}
 have hkout:∀i,wp H i->i∉za T code:=fun i hi hj=>hd2 i hj (yt.2 hi)
 have hout:∀i x,hget H i=x->x≠ .dead ->hget (zbg (qa (za T code)) H) i=x:=fun i x hx hn=>by
  rw[zt (hkout i (zf (by rw[hx];exact hn)))];exact hx
 have hback:∀i x,hget (zbg (qa (za T code)) H) i=x->x≠ .free ->hget H i=x:=fun i x hx hn=>by
  by_cases hi:i∈za T code
  .rw[wo hi]at hx;exact absurd hx.symm hn
  .rw[zt hi]at hx;exact hx
 have hlen:=hargs.length;have hkpt:∀i,(hget H i).isPt =true->wp H i:=fun i hi=>zf fun e=>by rw[e]at hi;cases hi
 have hkow:∀i,(hget H i).isBuf =true->wp H i:=fun i hi=>zf fun e=>by rw[e]at hi;cases hi
 have hg0:Good c0 M pt ow S (zbg (qa (za T code)) H) w:= {
  os:=rfl,tape:=rfl,output:=rfl,size:=qG _,keep:=fun _ _ _=>rfl,fresh:=hcore.fresh,m0:=fun _ h=>h,m1:=hcore.fresh,mt:=hcore.mt
  gm:=hcore.gm,gd:=hcore.gd,gl:=fun b hb=>.inr ⟨.inr hb,hb⟩
  loc:=fun i b hb=>.inr ⟨.inl ⟨i,hb⟩,by
   have hk:wp H i:=by
    unfold bl at hb
    cases hq:pt i with
    |some z=>exact hkpt i (hcore.dpt i z hq)
    |none=>
     rw[hq]at hb
     cases hq2:ow i with
     |none=>rw[hq2]at hb;cases hb
     |some z=>exact hkow i (hcore.dow i z hq2)
   exact(zi3 hfar i (yt.2 hk)).1⟩
  farp:=fun _ _ _ h=>h,farw:=fun _ _ _ h=>.inl h
  inj:=hcore.inj
  dpt:=fun i b hb=>by rw[zt (hkout i (hkpt i (hcore.dpt i b hb)))];exact hcore.dpt i b hb
  dow:=fun i b hb=>by rw[zt (hkout i (hkow i (hcore.dow i b hb)))];exact hcore.dow i b hb
  blk:=fun i=>by
   by_cases hi:i∈za T code
   .rw[wo hi];trivial
   .rw[zt hi];exact hcore.blk i}
 have hfree:∀i,i∈qf A++zas H->(hget (zbg (qa (za T code)) H) i).isFree =false:=fun i hi=>by
  rw[zt fun hj=>hd1 i hj hi];exact zb8 hnf
 have hrel:Rel c0 ⟨A++zbh (fn.ntmps-A.length),zbg (qa (za T code)) H⟩ {tmps:=vs.toArray++qC (fn.ntmps-vs.toArray.size) undef,defers:= []} w:=by
  refine⟨M,pt,ow,S,hg0,fun pt' ow' hag=>?_,.nil⟩;have hle:∀is:List Nat,(∀i∈is,i∈qf A++zas H)->Env.le ⟨zj w M,pt,ow⟩ ⟨zj w M,pt',ow'⟩ is:=fun is his=>⟨fun _ _ h=>h,fun i hi=>by
   have:=hag i (hfree i (his i hi));exact⟨fun b hb=>by change pt' i=some b at hb;rw[this.1]at hb;exact hb,fun b hb=>by change ow' i=some b at hb;rw[this.2]at hb;exact hb⟩⟩
  refine⟨?_,fun i l b cs Ty hl hb hcs=>?_⟩
  .have h1:=hargs.imp A _ (hle _ fun i hi=>by simp[hi]);have h2:=zmn (ρ:=⟨zj w M,pt',ow'⟩) (fn.ntmps-A.length);have:=h1.append h2;rw[hlen]at this⊢;simpa using this
  .have hl':=hback i _ hl OC;exact(hcont i l b cs Ty hl' hb hcs).imp _ _ (hle _ fun j hj=>by simp only[q8];exact .inr (vf hl' j hj))
 have hfin:∀(G:St)(a:Act)(w':World),Rel c0 G a w'->zdp T fn.results.toList ex r H' G->LeavesInM qW 0 P fn a.tmps (Ans w M pt ow S r H') a.defers .returning w':=by
  intro G a w' hr hK;obtain⟨_,_,_,_,_,_,Ds,hDs,_⟩:=id hr;obtain⟨tm,ds⟩:=a;simp only at hDs;subst hDs;refine za5 tm (fun w' hr=>?_) Ds w' hr;unfold zdp at hK;obtain⟨l1,hK,_⟩:=xu hT hr _ _ hK;obtain⟨σ',hr',hK⟩:=yc hr hK;obtain⟨l,⟨hleA,hleH⟩,vs',hrun,hrs⟩:=xu hT hr' _ _ hK;obtain⟨M1,pt1,ow1,S1,hg,hs,_⟩:=hr';obtain⟨v,hv,hRv⟩:=zfd hrun (hrs M1 pt1 ow1 S1 hg hs);refine⟨v,hv,?_⟩;obtain⟨ptN,owN,hgN,hless,hcel⟩:=hg.weaken (zc9 hleH);have hexI:∀i,i∈keys H'->(i<2000000/\(1000000<=i/\(i<1500000\/1999999<=i))/\exI ex i=i)\/(2000000<=i/\∃h:i-2000000<ex.length,exI ex i=ex[i-2000000]):=fun i hi=>by
   obtain⟨h1,h2,h2'⟩:=zi3 hfar' i hi;rcases qD i 2000000 with h3|h3
   .exact .inl ⟨h3,⟨h1,h2'⟩,zx2 h3⟩
   .exact .inr ⟨h3,O,qd9 h3 h2⟩
  have hexin:∀i,i∈keys H'->2000000<=i->exI ex i∈ex/\exI ex i<=999998:=fun i hi h2=>by
   rcases hexI i hi with h|⟨_,h3,h4⟩
   .omega
   .rw[h4];exact⟨qM _,hexlo _ (qM _)⟩
  have hinj:∀i,i∈keys H'->∀j∈keys H',exI ex j=exI ex i->j=i:=fun i hi j hj e=>by
   rcases hexI i hi with ⟨h1,h2,h3⟩|⟨h1,h2,h3⟩<;>rcases hexI j hj with ⟨h4,h5,h6⟩|⟨h4,h5,h6⟩
   .rw[h3,h6]at e;exact e
   .have:=(hexin j hj h4).2;rw[h3]at e;omega
   .have:=(hexin i hi h1).2;rw[h6]at e;omega
   .rw[h3,h6]at e;have:=(List.getElem_inj hexnd).1 e;omega
  have hgetm:∀i,i∈keys H'->hget (zc5 (exI ex) H') (exI ex i)=(hget H' i).mapI (exI ex):=fun i hi=>zf0 _ hi (hinj i hi)
  have hkeyH':∀i,hget H' i≠ .dead ->i∈keys H':=fun i hi=>yt.2 (zf hi)
  have hfarp:∀i b,(1000000<=i/\(i<1500000\/1999999<=i))->ptN i=some b->pt i=some b:=fun i b hi=>hgN.farp i b hi.1
  have hfarw:∀i b,(1000000<=i/\(i<1500000\/1999999<=i))->owN i=some b->ow i=some b:=fun i b hi hb=>by
   rcases hgN.farw i b hi.1 hb with h1|h1
   .exact h1
   .omega
  have hblf:∀i b,(1000000<=i/\(i<1500000\/1999999<=i))->bl ptN owN i=some b->bl pt ow i=some b:=fun i b hi hb=>by
   unfold bl at hb⊢
   cases hq:ptN i with
   |some z=>rw[hq]at hb;rw[hfarp i z hi hq];exact hb
   |none=>
    rw[hq]at hb
    cases hq2:owN i with
    |none=>rw[hq2]at hb;cases hb
    |some z=>
     rw[hq2]at hb;have h1:=hfarw i z hi hq2;rw[hcore.ptow h1,h1];exact hb
  have hbln:∀i b,i<=999998->bl ptN owN i=some b->w.heap.size<=b:=fun i b hi hb=>by
   rcases hgN.loc i b hb with h1|h1
   .exact h1
   .have:=h1.2;omega
  let ptF:Nat->Option Nat:=fun i=>if i∈keys H' then ptN (exI ex i)else none
  let owF:Nat->Option Value:=fun i=>if i∈keys H' then owN (exI ex i)else none
  let MF:Nat->Prop:=fun b=>M b\/S1 b\/∃i,i∈ex/\bl ptN owN i=some b
  have hF:∀i,i∈keys H'->ptF i=ptN (exI ex i)/\owF i=owN (exI ex i):=fun i hi=>by simp only[ptF,owF,Z4 hi];exact⟨trivial,trivial⟩
  have hFp:∀i b,ptF i=some b->i∈keys H'/\ptN (exI ex i)=some b:=fun i b hb=>by
   by_cases hi:i∈keys H'
   .exact⟨hi,by rw[(hF i hi).1]at hb;exact hb⟩
   .simp only[ptF,Z5 hi]at hb;cases hb
  have hFw:∀i b,owF i=some b->i∈keys H'/\owN (exI ex i)=some b:=fun i b hb=>by
   by_cases hi:i∈keys H'
   .exact⟨hi,by rw[(hF i hi).2]at hb;exact hb⟩
   .simp only[owF,Z5 hi]at hb;cases hb
  have hFb:∀i b,bl ptF owF i=some b->i∈keys H'/\bl ptN owN (exI ex i)=some b:=fun i b hb=>by
   by_cases hi:i∈keys H'
   .exact⟨hi,by simpa only[bl,(hF i hi).1,(hF i hi).2]using hb⟩
   .simp only[bl,ptF,owF,Z5 hi]at hb;cases hb
  have hMF1:∀b,MF b->M1 b:=fun b hb=>by
   rcases hb with h1|h1|⟨i,_,h1⟩
   .exact hgN.m0 b h1
   .exact hgN.gm b h1
   .exact hgN.mt i b h1
  have hV:∀b o,zj w' M1 b o->zj w' MF b o:=zr fun b o hm hb=>⟨fun h'=>hm (hMF1 b h'),hb⟩
  have hR1:∀(x:AV)(y:Value),R ⟨zj w' M1,ptN,owN⟩ (x.mapI (exI ex)) y->R ⟨zj w' MF,ptF,owF⟩ x y:=fun x y hx=>by
   have h1:=(R.mapI (V:=zj w' M1) (f:=exI ex) (pt:=fun i=>ptN (exI ex i)) (ow:=fun i=>owN (exI ex i)) (pt':=ptN) (ow':=owN) x y fun i _=>⟨rfl,rfl⟩).1 hx;exact h1.imp x y ⟨hV,fun i _=>⟨fun b hb=>(hFp i b hb).2,fun b hb=>(hFw i b hb).2⟩⟩
  have hR2:∀(x:List AV)(y:List Value),Rs ⟨zj w' M1,ptN,owN⟩ (yr (exI ex) x) y->Rs ⟨zj w' MF,ptF,owF⟩ x y:=fun x y hx=>by
   have h1:=(Rs.mapI (V:=zj w' M1) (f:=exI ex) (pt:=fun i=>ptN (exI ex i)) (ow:=fun i=>owN (exI ex i)) (pt':=ptN) (ow':=owN) x y fun i _=>⟨rfl,rfl⟩).1 hx;exact h1.imp x y ⟨hV,fun i _=>⟨fun b hb=>(hFp i b hb).2,fun b hb=>(hFw i b hb).2⟩⟩
  refine⟨v,MF,ptF,owF,S1,rfl,?_,?_,hR1 r v (R.le _ _ _ hleA (hless _) hRv),?_⟩
  .exact {
    fresh:=fun b hb=>hgN.fresh b (hMF1 b hb)
    mt:=fun i b hb=>by
     obtain⟨hi,hb'⟩:=hFb i b hb;rcases hexI i hi with ⟨h1,h2,h3⟩|⟨h1,_,_⟩
     .rw[h3]at hb';exact .inl (hcore.mt i b (hblf i b h2 hb'))
     .exact .inr (.inr ⟨_,(hexin i hi h1).1,hb'⟩)
    inj:=fun i j b hi hj=>by
     obtain⟨h1,h2⟩:=hFb i b hi;obtain⟨h3,h4⟩:=hFb j b hj;exact(hinj i h1 j h3 (hgN.inj _ _ b h4 h2)).symm
    gm:=fun b hb=>.inr (.inl hb)
    gd:=fun i b hb=>hgN.gd _ b (hFb i b hb).2
    dpt:=fun i b hb=>by
     obtain⟨hi,hb'⟩:=hFp i b hb;have:=hgN.dpt _ b hb';rw[hgetm i hi,xz]at this;exact this
    dow:=fun i b hb=>by
     obtain⟨hi,hb'⟩:=hFw i b hb;have:=hgN.dow _ b hb';rw[hgetm i hi,yi]at this;exact this
    blk:=fun i=>by
     by_cases hi:i∈keys H'
     .have h1:=hgN.blk (exI ex i);rw[hgetm i hi]at h1;have h2:=h1.unren (pt':=ptF) (ow':=owF) (i:=i) (exI ex) (hF i hi).1 (hF i hi).2 fun e=>by
       rcases hexI i hi with ⟨h3,h4,h5⟩|⟨h3,_,_⟩
       .rw[h5]at e;exact e
       .have:=(hexin i hi h3).2;rw[e]at this;simp only[qc]at this;omega
      refine h2.mono rfl rfl hV (fun x hx=>?_) (fun _ _ _ h=>h) (fun _ _ _ h=>h);obtain⟨_,hx'⟩:=hFw i x hx;rw[(hF i hi).1];exact hgN.ptow hx'
     .have:hget H' i=.dead :=by
       cases e:hget H' i<;>first|rfl|exact absurd (hkeyH' i (by rw[e];simp)) hi
      rw[this];trivial}
  .intro i m b cs Ty hm hb' hcs;obtain⟨hi,hb''⟩:=hFp i b hb';have h1:=hgetm i hi;rw[hm]at h1;simp only[Blk.mapI]at h1;obtain⟨l0,h2,h3,h4⟩:=hcel _ _ h1;rw[h4]at hb'';exact hR2 m _ (Rs.le _ _ _ h3 (hless _) ((hs pt1 ow1 (Agr.refl _ _ _)).2 _ l0 b cs Ty h2 hb'' hcs))
  .exact {
    os:=hgN.os,tape:=hgN.tape,output:=hgN.output,size:=hgN.size
    same:=fun b hb hn hS=>hgN.keep b hb fun h=>h.elim (fun⟨i,hi⟩=>hn i hi) hS
    mm:=fun b hb=>.inl hb
    mn:=fun b hb=>by
     rcases hb with h1|h1|⟨i,hi,h1⟩
     .exact .inl h1
     .rcases hgN.gl b h1 with h2|h2
      .exact .inr h2
      .exact .inl (hcore.gm b h2.2)
     .exact .inr (hbln i b (hexlo i hi) h1)
    sn:=fun b hb=>by
     rcases hgN.gl b hb with h2|h2
     .exact .inr h2
     .exact .inl h2.2
    lept:=fun i b hb=>by
     obtain⟨hi,hb'⟩:=hFp i b hb;rcases hexI i hi with ⟨h1,h2,h3⟩|⟨h1,_,_⟩
     .rw[h3]at hb';exact .inl (hfarp i b h2 hb')
     .exact .inr ⟨hbln _ b (hexin i hi h1).2 (by simp[bl,hb']),h1⟩
    leow:=fun i x hx=>by
     obtain⟨hi,hx'⟩:=hFw i x hx;rcases hexI i hi with ⟨h1,h2,h3⟩|⟨h1,_,_⟩
     .rw[h3]at hx';exact .inl (hfarw i x h2 hx')
     .refine .inr ⟨fun b hb=>.inl (hbln _ b (hexin i hi h1).2 ?_),h1⟩;unfold bl;rw[hgN.ptow hx',hx'];cases x<;>first|exact hb|(simp[vbl]at hb;done)|(rename_i ao _ _;cases ao<;>first|exact hb|(simp[vbl]at hb;done))}
 refine callsIn_wide.1 (callsIn_of_wp_marks (n:=0) hf hb trivial (hk.sem c0 _ _ _ hrel fun e G a w' hr hK=>?_))
 cases e with
 |normal=>exact hfin G a w' hr hK
 |ret=>exact hfin G a w' hr hK
 | _=>exact hK.elim
end
theorem zwe{T:Tab}{ex:List Nat}{c:Code}{n:Nat}{H:Hp}{A:List AV}{H':Hp}{W W':St->Prop}(hw:∀sl hp,W ⟨sl,hp⟩->W' ⟨sl,hp⟩)(h:fnC T ex c n H A H' W):fnC T ex c n H A H' W':=by
 unfold fnC at h⊢;rw[qk,wl]at h⊢;generalize xr (za T c) (qf A++zas H)=b1 at h⊢;generalize xr (za T c) (keys H)=b2 at h⊢;generalize far 0 (keys H)=b3 at h⊢;generalize far ex.length (keys H')=b4 at h⊢;generalize jk (zdj H)=b5 at h⊢;generalize xw (keys H')=b6 at h⊢;generalize (zz3 ex&&xw ex)=b7 at h⊢
 match b1,b2,b3,b4,b5,b6,b7,h with
 |true,true,true,true,true,true,true,h=>exact hw _ _ h
theorem fnT{P:Program}{T:Tab}(hT:TabOK P T)(hmx:P.follows .mixedOrders =true){f:Nat}{fn:Func}{code:Code}(hf:P.funcs[f]? =some fn)(hb:fn.body=some code)(hname:(fn.name== "runtime.NumGoroutine")=false)
 {ex:List Nat} {H H':Hp} {A:List AV} {r:AV} (h:fnC T ex code fn.ntmps H A H' fun G=>kz T (CN P) code true G (fun G=>zdp T fn.results.toList ex r H' G) (fun _ _=>False) (fun G=>zdp T fn.results.toList ex r H' G)):zcm P f H A r H':=by
 refine vu hT hmx hf hb hname (ex:=ex) (zwe (fun sl hp h=>?_) h);exact jt hT hmx (by rw[qk,wl];exact h)
theorem gZn{Q K:List Blk->AV->Prop}{r:AV}(h:Q [] r)(k:K [] r):∃b r,Q b r/\K b r:=⟨_,_,h,k⟩
theorem gYn{Q K:List Blk->AV->Prop}{r:AV}(h:Q [] r){X:Prop}(k:X)(e:K [] r=X:=by conv=>lhs;whnf):∃b r,Q b r/\K b r:=⟨_,_,h,e.mpr k⟩
theorem gYe{A B X:Prop}(k:X)(a:A:=by first|kernel_rfl)(e:B=X:=by conv=>lhs;whnf):A/\B:=⟨a,e.mpr k⟩
theorem gYd{A B C X:Prop}(k:X)(a:A:=by first|kernel_rfl)(b:B:=by first|kernel_rfl)(e:C=X:=by conv=>lhs;whnf):A/\B/\C:=⟨a,b,e.mpr k⟩
def zml(bi z:Nat)(e:TypeId)(k:Elt)(xs:List k.T):Hp:= [(bi,.cells [.own z]),(z,.buf e k xs)]
structure EndO(bi z:Nat)(e:TypeId)(k:Elt)(xs:List k.T)(U:St):Prop where
 le:leH U.hp (zml bi z e k xs) (zfk U.hp (zml bi z e k xs)) (zml bi z e k xs)
structure GhostO(i0 b0:Nat)(pt:Nat->Option Nat)(e:TypeId)(k:Elt)(xs:List k.T)(sl:List AV)(tm:Array Value)(D l:Nat)(rc:Loop)(S:Nat->Prop)(V:jp)(w:World):Prop where
 sd:S D
 sl_:S l
 hd:w.heap[D]? =some (.deferred (some []))
 hl:w.heap[l]? =some (.loop rc)
 sb:S b0
 bx:∃cs Ty h,w.heap[b0]? =some (.cells cs Ty (0,0))/\cs.toList= [h]/\zao w V e k xs h/\∀b,vbl h=some b->S b/\b≠b0/\b≠D/\b≠l
 rs:Rs ⟨V,ptB [i0] pt,fun _=>none⟩ (zb5 [i0] sl) tm.toList
theorem GhostO.stab(i0 b0:Nat)(pt:Nat->Option Nat)(e:TypeId)(k:Elt)(xs:List k.T)(sl:List AV)(tm:Array Value)(D l:Nat)(rc:Loop):qfd (GhostO i0 b0 pt e k xs sl tm D l rc):=
 fun S V V' w w' hV hS h=>⟨h.sd,h.sl_,hS _ _ h.sd h.hd,hS _ _ h.sl_ h.hl,h.sb,by
  obtain⟨cs,Ty,hh,h1,h2,h3,h4⟩:=h.bx;exact⟨cs,Ty,hh,hS _ _ h.sb h1,h2,h3.cmono hV fun b cap cs' e1 e2=>hS b _ (h4 b (by rw[e1];rfl)).1 e2,h4⟩,h.rs.cmono hV⟩
theorem zao.slice{w:World}{V:jp}{e:TypeId}{k:Elt}{xs:List k.T}{h:Value}(hb:zao w V e k xs h):∃a n c,h=.slice a n c:=by
 rcases hb with ⟨h1,_⟩|⟨b,cap,cs,h1,_⟩
 .exact⟨_,_,_,h1⟩
 .exact⟨_,_,_,h1⟩
theorem zib:∀(ps:List Nat)(vs sl:List AV)(K:List AV->Prop),ps.length=vs.length->K (psG ps vs sl)->zb6 ps vs sl K
 | [],[],sl,K,_,h=>h
 | [],_::_,_,_,h,_=>by simp at h
 | _::_,[],_,_,h,_=>by simp at h
 |p::ps,v::vs,sl,K,hl,h=>by
  simp only[zb6];rw[zch,zcv];exact zib ps vs _ K (by simpa using hl) h
theorem ziw(bi z:Nat)(e:TypeId)(k:Elt)(xs:List k.T)(j:Nat):hget (zml bi z e k xs) j=if bi=j then .cells [.own z]else if z=j then .buf e k xs else .dead :=by
 unfold zml;rw[ze,ze];rfl
section
variable {P:Program} {T:Tab} {F:Wf} {c:Ctx} {G:St} {a:Act} {w:World}
set_option maxHeartbeats 1000000 in
theorem zrr{asg body:Code}(ihA:ut P T asg)(ihB:ut P T body){i0 bi b0 z ob:Nat}{pt:Nat->Option Nat}{e:TypeId}{k:Elt}{xs xs':List k.T}{sl:List AV}{tm:Array Value}{D l fn:Nat}{ps:Array Tmp}{X:List Nat}{A:List AV}
 (hbi:bi=ur i0) (hi0:i0<=399999) (hob:1400000<=ob) (hz:z≠bi) (hp0:pt i0=some b0) (hbD:b0<D) (hlD:l=D+1) (hX1:bi∉X) (hX2:ob∉X) (hA:znj (qf A)=true) (rc:Loop)
 (hrc:rc= {state:=.ready,pending:=none,fn:=fn,tmps:=tm,params:=ps,assign:=asg,body:=body,defers:=D})
 (hk:zb6 ps.toList A (zb5 [i0] sl) fun sl=>vl T (CN P) false asg ⟨sl,zbg (qa X) (zml bi ob e k xs)⟩ fun ex U=>match ex with
   |.normal =>vl T (CN P) false body U fun ex U=>match ex with
     |.normal =>EndO bi z e k xs' U
     | _=>False
   | _=>False):
 zuk P l [(qc,.gst (GhostO i0 b0 pt e k xs sl tm D l rc))] A (.bool true) [(qc,.gst (GhostO i0 b0 pt e k xs' sl tm D l rc))]:=by
 intro W M2 pt2 ow2 S2 vs hcore hconts hvs;have hpt2:∀i,pt2 i=none:=fun i=>hcore.ptn (by rw[wy];split<;>rfl)
 have how2:∀i,ow2 i=none:=fun i=>hcore.own (by rw[wy];split<;>rfl)
 have hb2:∀i b,bl pt2 ow2 i≠some b:=fun i b h=>by simp[bl,hpt2,how2]at h
 have hJ:=hcore.blk qc;rw[wy,Z4 rfl]at hJ;obtain⟨_,_,hJ⟩:=hJ;obtain⟨hlen,hk⟩:=yf _ _ _ _ hk;have hA':=zai hA;have hy:=run_yield (P:=P) (args:=vs.toArray) hJ.hl (by rw[hrc];simp;rw[<-hvs.length,<-hlen];simp);refine⟨rc.fn,_,rc.assign,rc.body,hy,roundIn_of_wpIn trivial ?_⟩;have hlM:M2 l:=hcore.gm l hJ.sl_;have hlW:l<W.heap.size:=zd hJ.hl;have hDW:D<W.heap.size:=zd hJ.hd;obtain⟨cs0,Ty0,h0,hx1,hx2,hx3,hx4⟩:=hJ.bx;have hne:bi≠ob:=by rw[hbi];unfold ur;omega
 obtain⟨pb,hpb⟩:∃pb,pb=ptB [i0] pt:=⟨_,rfl⟩;have hrs:=hJ.rs;have hrs2:=hJ.rs;rw[<-hpb]at hrs;have hptb:∀j b,pb j=some b<->j=bi/\b=b0:=fun j b=>by
  rw[hpb,hbi];constructor
  .intro h;obtain⟨i,h1,h2,h3⟩:=zcy h;simp only[q6]at h1;subst h1;rw[hp0]at h3;exact⟨h2,(Option.some.inj h3).symm⟩
  .rintro⟨rfl,rfl⟩;rw[ud OC];exact hp0
 let ow1:Nat->Option Value:=fun i=>if i=ob then some h0 else none
 let c1:Ctx:= {M0:=M2,w0:=W,mine:=fun b=>b=b0\/vbl h0=some b,sm:=fun _=>False,pt0:=pb,ow0:=ow1}
 have hmine:∀b,c1.mine b->b≠D/\b≠l/\S2 b:=fun b hb=>by
  rcases hb with rfl|hb
  .exact⟨O,O,hJ.sb⟩
  .have:=hx4 b hb;exact⟨this.2.2.1,this.2.2.2,this.1⟩
 have how1:∀j x,ow1 j=some x->j=ob/\x=h0:=fun j x h=>by
  by_cases e:j=ob
  .refine⟨e,?_⟩;simp only[ow1,Z4 e]at h;exact(Option.some.inj h).symm
  .simp only[ow1,Z5 e]at h;cases h
 have hptO:pb ob=none:=by
  cases h:pb ob with
  |none=>rfl
  |some b=>exact absurd ((hptb _ _).1 h).1.symm hne
 have hblB:∀j b,bl (pb) ow1 j=some b->(j=bi/\b=b0)\/(j=ob/\vbl h0=some b):=fun j b h=>by
  unfold bl at h
  cases hq:pb j with
  |some z=>rw[hq]at h;cases h;exact .inl ((hptb _ _).1 hq)
  |none=>
   rw[hq]at h
   cases hq2:ow1 j with
   |none=>rw[hq2]at h;cases h
   |some x=>
    obtain⟨h1,rfl⟩:=how1 j x hq2;rw[hq2]at h;refine .inr ⟨h1,?_⟩;obtain⟨ao,n,cp,rfl⟩:=hx3.slice;cases ao<;>exact h
 have hnX:∀j,j∈X->hget (zbg (qa X) (zml bi ob e k xs)) j=.free :=fun j hj=>wo hj
 have hgB:∀j,j∉X->hget (zbg (qa X) (zml bi ob e k xs)) j=if bi=j then .cells [.own ob]else if ob=j then .buf e k xs else .dead :=fun j hj=>by
  rw[zt hj,ziw]
 have hg1:hget (zbg (qa X) (zml bi ob e k xs)) (bi)=.cells [.own ob]:=by rw[hgB _ hX1,Z4 rfl]
 have hg2:hget (zbg (qa X) (zml bi ob e k xs)) ob=.buf e k xs:=by rw[hgB _ hX2,Z5 hne,Z4 rfl]
 have hrel:Rel c1 ⟨psG ps.toList A (zb5 [i0] sl),zbg (qa X) (zml bi ob e k xs)⟩ {tmps:=(rc.params.zip vs.toArray).foldl (fun tmps(t,a)=>tmps.setIfInBounds t a) rc.tmps,defers:= []} W:=by
  refine⟨M2,pb,ow1,fun _=>False,?_,?_,.nil⟩
  .exact {
    os:=rfl,tape:=rfl,output:=rfl,size:=qG _,keep:=fun _ _ _=>rfl,fresh:=hcore.fresh,m0:=fun _ h=>h,m1:=hcore.fresh
    mt:=fun j b hb=>by
     rcases hblB j b hb with ⟨_,rfl⟩|⟨_,h⟩
     .exact hcore.gm _ hJ.sb
     .exact hcore.gm b (hx4 b h).1
    inj:=fun j q b hj hq=>by
     rcases hblB j b hj with ⟨h1,h2⟩|⟨h1,h2⟩<;>rcases hblB q b hq with ⟨h3,h4⟩|⟨h3,h4⟩
     .rw[h1,h3]
     .exact absurd h2 (hx4 b h4).2.1
     .exact absurd h4 (hx4 b h2).2.1
     .rw[h1,h3]
    gm:=fun b h=>h.elim,gl:=fun b h=>h.elim,gd:=fun _ _ _ h=>h
    loc:=fun j b hb=>by
     rcases hblB j b hb with ⟨h1,h2⟩|⟨h1,h2⟩
     .exact .inr ⟨.inl h2,by rw[h1,hbi];unfold ur;omega⟩
     .exact .inr ⟨.inr h2,O⟩
    farp:=fun _ _ _ h=>h,farw:=fun _ _ _ h=>.inl h
    dpt:=fun j b hb=>by
     obtain⟨h1,_⟩:=(hptb j b).1 hb;rw[h1,hg1];rfl
    dow:=fun j x hb=>by
     obtain⟨h1,_⟩:=how1 j x hb;rw[h1,hg2];rfl
    blk:=fun j=>by
     by_cases hjX:j∈X
     .rw[hnX j hjX];trivial
     .rw[hgB j hjX];split
      .rename_i e1;subst e1;exact⟨b0,cs0,Ty0,(hptb _ _).2 ⟨rfl,rfl⟩,hx1⟩
      .split
       .rename_i e2;subst e2;exact⟨h0,by simp[ow1],hx3⟩
       .trivial}
  .intro pt' ow' hag;have ha1:=hag (bi) (by rw[hg1];rfl);have ha2:=hag ob (by rw[hg2];rfl);have hle:Env.le ⟨zj W M2,pb,fun _=>none⟩ ⟨zj W M2,pt',ow'⟩ (qf (psG ps.toList A (zb5 [i0] sl))):=⟨fun _ _ h=>h,fun j hj=>by
    have hj':j=bi:=by
     rcases ziv _ _ _ _ hj with h|h
     .rw[hA']at h;cases h
     .have:=zaj _ _ _ h;obtain⟨i,h1,h2⟩:=(zsn _ _).1 this;simp only[q6]at h1;rw[h2,h1,hbi]
    rw[hj'];refine⟨fun b hb=>ha1.1.symm.trans hb,fun b hb=>?_⟩;have:ow' (bi)=some b:=hb;rw[ha1.2]at this;exact absurd (how1 _ _ this).1 hne⟩
   refine⟨?_,fun j m b cs Ty hm hb hcs=>?_⟩
   .have hvs':Rs ⟨zj W M2,pb,fun _=>none⟩ A vs:=Rs.imp (ρ:=⟨zj W M2,pt2,ow2⟩) A vs ⟨fun _ _ h=>h,fun i hi=>by rw[hA']at hi;cases hi⟩ hvs;have h1:=znb ps.toList A vs (zb5 [i0] sl) tm hvs' hrs;have e:((rc.params.zip vs.toArray).foldl (fun tmps(t,a)=>tmps.setIfInBounds t a) rc.tmps)=(ps.toList.zip vs).foldl (fun t(p,v)=>t.setIfInBounds p v) tm:=by
     rw[hrc,<-qI];simp
    rw[e];exact h1.imp _ _ hle
   .by_cases hjX:j∈X
    .rw[hnX j hjX]at hm;cases hm
    .rw[hgB j hjX]at hm;split at hm
     .rename_i e1;subst e1;cases hm
      obtain⟨_,h2⟩:=(hptb _ _).1 hb;subst h2;rw[hx1]at hcs;cases hcs
      rw[hx2];refine⟨⟨hx3.slice,fun x hx=>?_⟩,trivial⟩;have:ow' ob=some x:=hx;rw[ha2.2]at this;exact(how1 _ _ this).2.symm
     .split at hm<;>cases hm
 have hrcA:rc.assign=asg:=by rw[hrc]
 have hrcB:rc.body=body:=by rw[hrc]
 rw[hrcA,hrcB];refine ihA ⟨qW.inRound l,.inr ⟨l,rfl⟩⟩ c1 _ _ _ _ W hrel hk fun ex U a1 W1 hr hk1=>?_
 cases ex with
 |normal=>
  have hL1:W1.heap[l]? =some (.loop rc):=by
   obtain⟨_,_,_,_,hg,_⟩:=hr;rw[hg.keep l hlW fun h=>(hmine l h).2.1 rfl];exact hJ.hl
  refine⟨_,run_beginRound hL1 (by rw[hrc]),?_⟩;have hr2:=hr.touch (.loop {rc with state:=.busy}) hlM (fun h=>(hmine l h).2.1 rfl) hlW (by rw[hJ.hl];simp);refine ihB ⟨qW.inRound l,.inr ⟨l,rfl⟩⟩ _ _ _ _ a1 _ hr2 hk1 fun ex τ2 a2 W2 hr3 hk2=>?_
  cases ex with
  |normal=>
   obtain⟨hend⟩:=hk2;obtain⟨M3,pt3,ow3,S3,hg3,hs3,_⟩:=hr3;have hkeep:∀b,b<W.heap.size->¬c1.mine b->b≠l->W2.heap[b]? =W.heap[b]? :=fun b hb hm hne'=>by
    rw[hg3.keep b (by simpa[qY]using hb) hm];exact zx W _ hne'
   have hL2:W2.heap[l]? =some (.loop {rc with state:=.busy}):=by
    rw[hg3.keep l (by simpa[qY]using hlW) fun h=>(hmine l h).2.1 rfl];exact qZ hlW
   refine⟨_,_,run_endRound none hL2,?_⟩;have hsz:W.heap.size<=W2.heap.size:=by have:=hg3.size;simpa[qY]using this
   obtain⟨Wf,hWf⟩:∃Wf,Wf=W2.putObj l (.loop rc):=⟨_,rfl⟩;have hWf':W2.putObj l (.loop {({rc with state:=.busy}:Loop)with state:=if(none:Option Code).isNone then .ready else .done,pending:=none})=Wf:=by rw[hWf,hrc];rfl
   rw[hWf'];have hfsz:Wf.heap.size=W2.heap.size:=by rw[hWf];simp[qY]
   have hfne:∀b,b≠l->Wf.heap[b]? =W2.heap[b]? :=fun b hb=>by rw[hWf];exact zx W2 _ hb
   have hfl:Wf.heap[l]? =some (.loop rc):=by rw[hWf];exact qZ (zd hL2)
   obtain⟨ptN,owN,hgN,hless,hcel⟩:=hg3.weaken (zc9 hend);have hz1:hget (zml bi z e k xs') (bi)=.cells [.own z]:=by rw[ziw,Z4 rfl]
   have hz2:hget (zml bi z e k xs') z=.buf e k xs':=by rw[ziw,Z5 (fun h=>hz h.symm),Z4 rfl]
   obtain⟨b,cs,Ty,h1,h2⟩:=hgN.cel _ _ hz1;have hb:b=b0:=((hptb _ _).1 (hgN.farp (bi) b (by rw[hbi];unfold ur;omega) h1)).2;subst hb;obtain⟨h',hz3,hz4⟩:=hgN.buf _ _ _ _ hz2;obtain⟨m0,h3,h4,h5⟩:=hcel _ _ hz1;have h1':=h1;rw[h5]at h1';have h6:=(hs3 pt3 ow3 (Agr.refl _ _ _)).2 _ m0 b cs Ty h3 h1' h2;have h7:=Rs.le _ _ _ h4 (hless _) h6;have hcs:cs.toList= [h']:=by
    match hcl:cs.toList,h7 with
    | [v],⟨⟨_,hv⟩,_⟩=>rw[hv h' hz3]
   have hblz:∀q,vbl h'=some q->bl ptN owN z=some q:=fun q hq=>by
    unfold bl;rw[hgN.ptow hz3,hz3];obtain⟨ao,n,cp,rfl⟩:=hz4.slice;cases ao<;>exact hq
   have hblb:bl ptN owN (bi)=some b:=by simp[bl,h1]
   have hq1:∀q,vbl h'=some q->q≠b:=fun q hq e1=>hz (hgN.inj z (bi) b (by rw[<-e1];exact hblz q hq) hblb)
   have hq2:∀q,vbl h'=some q->(W.heap.size<=q\/vbl h0=some q):=fun q hq=>by
    rcases hgN.loc z q (hblz q hq)with h8|⟨h8,_⟩
    .exact .inl (by simpa[qY]using h8)
    .rcases h8 with h8|h8
     .exact absurd h8 (hq1 q hq)
     .exact .inr h8
   have hq3:∀q,vbl h'=some q->q≠D/\q≠l:=fun q hq=>by
    rcases hq2 q hq with h8|h8
    .exact⟨O,O⟩
    .have:=hx4 q h8;exact⟨this.2.2.1,this.2.2.2⟩
   let S4:Nat->Prop:=fun q=>S2 q\/vbl h'=some q
   let M4:Nat->Prop:=fun q=>M2 q\/vbl h'=some q
   have hM43:∀q,M4 q->M3 q:=fun q hq=>hq.elim (hg3.m0 q) fun hq=>hgN.mt z q (hblz q hq)
   have hV3:∀b o,zj W2 M3 b o->zj Wf M4 b o:=zr fun b o hm hb=>⟨fun h=>hm (hM43 b h),by rw[hfne b fun e=>hm (hg3.m0 b (e▸hlM))];exact hb⟩
   have hVW:∀b o,zj W M2 b o->zj Wf M4 b o:=zr fun b o hm hb=>by
    have hne':b≠l:=fun e=>hm (e▸hlM)
    refine⟨fun h=>h.elim hm fun h=>?_,?_⟩
    .rcases hq2 b h with h8|h8
     .have:=zd hb;omega
     .exact hm (hcore.gm b (hx4 b h8).1)
    .rw[hfne b hne',hkeep b (zd hb) (fun h=>hm (hcore.gm b (hmine b h).2.2)) hne'];exact hb
   have hbl':b≠l:=O;refine⟨_,M4,pt2,ow2,S4,rfl,?_,?_,?_,?_⟩
   .exact {
     fresh:=fun q hq=>by rw[hfsz];exact hg3.fresh q (hM43 q hq)
     mt:=fun i q hq=>absurd hq (hb2 i q)
     inj:=fun i j q hq=>absurd hq (hb2 i q)
     gm:=fun q hq=>hq.elim (fun h=>.inl (hcore.gm q h)) .inr
     gd:=fun i q hq=>absurd hq (hb2 i q)
     dpt:=fun i q hq=>by rw[hpt2]at hq;cases hq
     dow:=fun i q hq=>by rw[how2]at hq;cases hq
     blk:=fun i=>by
      rw[wy];split
      .rename_i e;subst e;have hD':Wf.heap[D]? =some (.deferred (some [])):=by
        rw[hfne D O,hkeep D hDW (fun h=>(hmine D h).1 rfl) O];exact hJ.hd
       refine⟨rfl,GhostO.stab _ _ _ _ _ _ _ _ _ _ _,⟨.inl hJ.sd,.inl hJ.sl_,hD',hfl,.inl hJ.sb,⟨cs,Ty,h',by rw[hfne b hbl'];exact h2,hcs,?_,fun q hq=>⟨.inr hq,hq1 q hq,(hq3 q hq).1,(hq3 q hq).2⟩⟩,hrs2.imp _ _ (Env.le_view hVW _)⟩⟩;exact hz4.mono hV3 fun q cap cs' e1 e2=>by rw[hfne q (hq3 q (by rw[e1];rfl)).2];exact e2
      .trivial}
   .intro i m q cs Ty hm;rw[wy]at hm;split at hm<;>cases hm
   .rfl
   .exact {
     os:=by rw[hWf];exact hg3.os
     tape:=by rw[hWf];exact hg3.tape
     output:=by rw[hWf];exact hg3.output
     size:=by rw[hfsz];exact hsz
     same:=fun q hq _ hS=>by
      have hne':q≠l:=fun e=>hS (e▸hJ.sl_)
      rw[hfne q hne'];exact hkeep q hq (fun h=>hS (hmine q h).2.2) hne'
     mm:=fun _ h=>.inl h
     mn:=fun q h=>h.elim .inl fun h=>(hq2 q h).elim .inr fun h8=>.inl (hcore.gm q (hx4 q h8).1)
     sn:=fun q h=>h.elim .inl fun h=>(hq2 q h).elim .inr fun h8=>.inl (hx4 q h8).1
     lept:=fun _ _ h=>.inl h,leow:=fun _ _ h=>.inl h}
  | _=>exact hk2.elim
 | _=>exact hk1.elim
def roOk(T:Tab)(sl:List AV)(hp:Hp)(g:Nat)(i0 k0 bi ob:Nat)(caps:List AV)(ib:List Blk)(X:List Nat):Bool:=
 q5 (zxq T g) 0&&jk (zw hp (nub (qf caps)))&&xo (nub (qf caps)) ib&&jk ib&&zgt (zas (zz (nub (qf caps)) ib)) (nub (qf caps))&&xr [qc] (nub (qf caps))&&ltB (nub (qf caps))&&
  xr [i0,k0] (nub (qf caps))&&xr [k0] (i0::qf sl++zas (zbz hp i0 .dead))&&q4 i0 399999&&q4 k0 999999&&xr [bi,ob] X&&q4 1400000 ob
open Classical in
set_option maxHeartbeats 2000000 in
theorem zjp{asg body:Code}(ihA:ut P T asg)(ihB:ut P T body){f:Operand}{ps:Array Tmp}{Q:Exit->Act->World->Prop}(h:Rel c G a w){g:Nat}{caps:List AV}(hf:zg G.sl f=.fn g caps)
 {i0 k0 bi ob:Nat} {e:TypeId} {k:Elt} {X Y:Type} {xs:X->List k.T} {args:Y->List AV} {next:X->Y->X} {x₀ xE:X} {r:AV} {ib:List Blk} (hbi:bi=ur i0)
 (hc0:hget G.hp i0=.cells [.own k0]) (hc1:hget G.hp k0=.buf e k (xs x₀)) (hok:roOk T G.sl G.hp g i0 k0 bi ob caps ib (za T asg++za T body)=true) (hargs:∀y,znj (qf (args y))=true)
 (ok:X->Prop) (hcall:∀(l:Nat)(J:X->GJ),(∀x y,ok x->zuk P l [(qc,.gst (J x))] (args y) (.bool true) [(qc,.gst (J (next x y)))])->
   zcm P g ((qc,.gst (J x₀))::zz (nub (qf caps)) (zw G.hp (nub (qf caps)))) (.cb l::caps) r ((qc,.gst (J xE))::zz (nub (qf caps)) ib))
 (hbody:∀x y,ok x->∃z,z≠bi/\zb6 ps.toList (args y) (zb5 [i0] G.sl) fun sl=>vl T (CN P) false asg ⟨sl,zbg (qa (za T asg++za T body)) (zml bi ob e k (xs x))⟩ fun ex U=>match ex with
   |.normal =>vl T (CN P) false body U fun ex U=>match ex with
     |.normal =>EndO bi z e k (xs (next x y)) U
     | _=>False
   | _=>False)
 (hQ:∀a w,Rel c ⟨G.sl,zu (zbz G.hp k0 (.buf e k (xs xE))) (nub (qf caps)) ib⟩ a w->Q .normal a w):(Code.rangeFunc f ps asg body).wpIn qW 0 P Q a w:=by
 simp only[roOk,q1]at hok;obtain⟨⟨⟨⟨⟨⟨⟨⟨⟨⟨⟨⟨hnb,hnfc⟩,hlib⟩,hnfb⟩,hsub1⟩,hcb⟩,hltc⟩,hdis⟩,hdk⟩,hi0⟩,hk0⟩,hdX⟩,hob⟩:=hok;have hi0:=q0 hi0;have hk0:=q0 hk0;have hob:=q0 hob;have hdis:=(qo _ _).1 hdis;have hdk:=(qo _ _).1 hdk;have hdX:=(qo _ _).1 hdX;have hi0c:i0∉nub (qf caps):=hdis i0 OC;have hk0c:k0∉nub (qf caps):=hdis k0 OC;have hcb:qc∉nub (qf caps):=(qo _ _).1 hcb qc OC;have hltc:=za3 hltc;have hsub1:=vz _ _ hsub1;have hkdis:=hdk k0 OC;simp only[qF,q3,q8,not_or]at hkdis;obtain⟨hk0i,hk0sl,hk0h⟩:=hkdis;generalize hic:nub (qf caps)=ic at*;have hicnd:ic.Nodup:=by rw[<-hic];exact yp _
 obtain⟨M,pt,ow,S,hg,hs,hd⟩:=h;obtain⟨hsl,hct⟩:=hs pt ow (Agr.refl _ _ _);have hfv:=zc hsl f;rw[hf]at hfv;simp only[R]at hfv;obtain⟨vcaps,hfv,hcaps⟩:=hfv;obtain⟨b0,cs0,Ty0,hp0,hh0⟩:=hg.cel i0 _ hc0;obtain⟨h00,how0,hbuf0⟩:=hg.buf k0 _ _ _ hc1;have hcs0:cs0.toList= [h00]:=by
  match hcl:cs0.toList,hct i0 _ b0 cs0 Ty0 hc0 hp0 hh0 with
  | [v],⟨⟨_,hv⟩,_⟩=>rw[hv h00 how0]
 have hbk0:∀b,vbl h00=some b->bl pt ow k0=some b:=fun b hb=>by
  unfold bl;rw[hg.ptow how0,how0];obtain⟨ao,n,cp,rfl⟩:=hbuf0.slice;cases ao<;>exact hb
 have hbi0:bl pt ow i0=some b0:=by simp[bl,hp0]
 have hb0ne:∀b,vbl h00=some b->b≠b0:=fun b hb e1=>hk0i (hg.inj k0 i0 b (hbk0 b hb) (e1▸hbi0))
 refine wpIn_rangeFunc fun fn _=>?_
 obtain⟨D,hD⟩:∃D,D=w.heap.size:=⟨_,rfl⟩;obtain⟨l,hl⟩:∃l,l=D+1:=⟨_,rfl⟩;obtain⟨rc,hrc⟩:∃rc:Loop,rc= {state:=.ready,pending:=none,fn:=fn,tmps:=a.tmps,params:=ps,assign:=asg,body:=body,defers:=D}:=⟨_,rfl⟩;obtain⟨w1,hw1⟩:∃w1,w1=(w.alloc (.deferred (some []))).alloc (.loop rc):=⟨_,rfl⟩;have he1:Ext w w1:=by
  have h1:=Ext.alloc w (.deferred (some []));have h2:=Ext.alloc (w.alloc (.deferred (some []))) (.loop rc);rw[hw1];exact⟨h2.os.trans h1.os,h2.tape.trans h1.tape,h2.output.trans h1.output,qB h1.size h2.size,fun b hb'=>(h2.block b OE).trans (h1.block b hb')⟩
 have hw1sz:w1.heap.size=w.heap.size+2:=by rw[hw1];simp
 have hD1:w1.heap[D]? =some (.deferred (some [])):=by
  rw[hw1,hD,(Ext.alloc (w.alloc (.deferred (some []))) (.loop rc)).block _ OC];exact w6 _ _
 have hl1:w1.heap[l]? =some (.loop rc):=by
  rw[hw1,hl,hD];have:=w6 (w.alloc (.deferred (some []))) (.loop rc);rwa [wA]at this
 have hMlt:∀b,M b->b<w.heap.size:=hg.fresh;have hbllt:∀i b,bl pt ow i=some b->b<w.heap.size:=fun i b hb'=>hMlt b (hg.mt i b hb')
 have hptlt:∀i b,pt i=some b->b<w.heap.size:=fun i b hb'=>hbllt i b (by simp[bl,hb'])
 have hb0lt:=hptlt i0 b0 hp0;have hv0lt:∀b,vbl h00=some b->b<w.heap.size:=fun b hb=>hbllt k0 b (hbk0 b hb)
 let M1:Nat->Prop:=fun b=>M b\/b=D\/b=l
 let S1:Nat->Prop:=fun b=>b=D\/b=l\/b=b0\/vbl h00=some b
 let ptR:Nat->Option Nat:=fun i=>if i∈ic then pt i else none
 let owR:Nat->Option Value:=fun i=>if i∈ic then ow i else none
 have hptR:∀i b,ptR i=some b->i∈ic/\pt i=some b:=fun i b hb'=>by
  by_cases hi:i∈ic
  .exact⟨hi,by simpa only[ptR,hi,if_true]using hb'⟩
  .simp only[ptR,hi,if_false]at hb';cases hb'
 have howR:∀i b,owR i=some b->i∈ic/\ow i=some b:=fun i b hb'=>by
  by_cases hi:i∈ic
  .exact⟨hi,by simpa only[owR,hi,if_true]using hb'⟩
  .simp only[owR,hi,if_false]at hb';cases hb'
 have hblR:∀i b,bl ptR owR i=some b->i∈ic/\bl pt ow i=some b:=fun i b hb'=>by
  by_cases hi:i∈ic
  .exact⟨hi,by simpa only[bl,ptR,owR,hi,if_true]using hb'⟩
  .simp only[bl,ptR,owR,hi,if_false]at hb';cases hb'
 have hV1:∀b o,zj w M b o->zj w1 M1 b o:=zr fun b o hm hb'=>⟨fun h'=>by
  have:=zd hb';rcases h' with h'|h'|h'
  .exact hm h'
  .omega
  .omega,he1.get hb'⟩
 have hleR:∀ids:List Nat,Env.le ⟨zj w M,pt,ow⟩ ⟨zj w1 M1,ptR,owR⟩ ids:=fun ids=>⟨hV1,fun i _=>⟨fun b hb'=>(hptR i b hb').2,fun b hb'=>(howR i b hb').2⟩⟩
 let J:X->GJ:=fun x=>GhostO i0 b0 pt e k (xs x) G.sl a.tmps D l rc
 have hgetZ:∀(x:Blk)(bs:List Blk)i,hget ((qc,x)::zz ic bs) i=if qc=i then x else hget (zz ic bs) i:=fun x bs i=>ze _ _ _ _
 have hJ0:J x₀ S1 (zj w1 M1) w1:=by
  refine⟨.inl rfl,.inr (.inl rfl),hD1,hl1,.inr (.inr (.inl rfl)),⟨cs0,Ty0,h00,he1.get hh0,hcs0,hbuf0.mono hV1 fun b cap cs _ h2=>he1.get h2,fun b hb=>⟨.inr (.inr (.inr hb)),hb0ne b hb,?_,?_⟩⟩,?_⟩
  .have:=hv0lt b hb;omega
  .have:=hv0lt b hb;omega
  .exact(Rs.mvl (pt':=ptB [i0] pt) (ow':=fun _=>none) (fun i hi=>ud hi) G.sl _ hsl).imp _ _ (Env.le_view hV1 _)
 have hcore1:Core M1 ptR owR S1 ((qc,.gst (J x₀))::zz ic (zw G.hp ic)) w1:= {
  fresh:=fun b hb'=>by
   rcases hb' with h'|h'|h'
   .have:=hMlt b h';omega
   .omega
   .omega
  mt:=fun i b hb'=>.inl (hg.mt i b (hblR i b hb').2)
  inj:=fun i j b hi hj=>hg.inj i j b (hblR i b hi).2 (hblR j b hj).2
  gm:=fun b hb'=>by
   rcases hb' with h'|h'|h'|h'
   .exact .inr (.inl h')
   .exact .inr (.inr h')
   .exact .inl (hg.mt i0 b (h'▸hbi0))
   .exact .inl (hg.mt k0 b (hbk0 b h'))
  gd:=fun i b hb' hS=>by
   obtain⟨hi,hb''⟩:=hblR i b hb';have:=hbllt i b hb'';rcases hS with h'|h'|h'|h'
   .omega
   .omega
   .have:=hg.inj i i0 b hb'' (h'▸hbi0);exact hi0c (this▸hi)
   .have:=hg.inj i k0 b hb'' (hbk0 b h');exact hk0c (this▸hi)
  dpt:=fun i b hb'=>by
   obtain⟨hi,hb''⟩:=hptR i b hb';rw[hgetZ,Z5 (show ¬qc=i from fun e=>hcb (e▸hi)),zn G.hp hi];exact hg.dpt i b hb''
  dow:=fun i b hb'=>by
   obtain⟨hi,hb''⟩:=howR i b hb';rw[hgetZ,Z5 (show ¬qc=i from fun e=>hcb (e▸hi)),zn G.hp hi];exact hg.dow i b hb''
  blk:=fun i=>by
   rw[hgetZ];by_cases e1:qc=i
   .rw[Z4 e1];exact⟨e1.symm,GhostO.stab _ _ _ _ _ _ _ _ _ _ _,hJ0⟩
   .rw[Z5 e1];by_cases hi:i∈ic
    .rw[zn G.hp hi];have h1:=(hg.blk i).mono (w':=w1) (V':=zj w1 M1) (pt':=pt) (ow':=ow) rfl rfl hV1 (fun _=>hg.ptow) (fun _ _ _ hh=>he1.get hh) (fun _ _ _ hh=>he1.get hh);have h2:=h1.ren (pt':=ptR) (ow':=owR) (S':=S1) (i:=i) id (by simp only[ptR,Z4 hi]) (by simp only[owR,Z4 hi]) (fun e'=>absurd e'.symm e1)
     rwa [Blk.mapI_id']at h2
    .rw[qg hi];trivial}
 have hcall':=hcall l J (fun x y hx=>by
  obtain⟨z,hz,hb⟩:=hbody x y hx;exact zrr (P:=P) (T:=T) ihA ihB hbi hi0 hob hz hp0 (by rw[hD];exact hb0lt) hl (hdX bi OC) (hdX ob OC) (hargs y) rc hrc hb)
 obtain⟨⟨fg,hfg,hbg,hng⟩,hokc⟩:=hcall';have hcallee:=hokc w1 M1 ptR owR S1 (.func (.yield l) #[] #[]::vcaps.toList) hcore1 (fun i m b cs Ty hm hb' hcs=>by
  obtain⟨hi,hb''⟩:=hptR i b hb';rw[hgetZ,Z5 (show ¬qc=i from fun e=>hcb (e▸hi)),zn G.hp hi]at hm;obtain⟨b1,cs1,Ty1,h1,h2⟩:=hg.cel i m hm;rw[hb'']at h1;cases h1
  have:=he1.get h2;rw[hcs]at this;cases this
  exact(hct i m b cs Ty hm hb'' h2).imp _ _ (hleR _)) (by simp only[Rs,R];exact⟨trivial,hcaps.imp _ _ (hleR _)⟩)
 refine⟨l,[{target:=.collected D,args:= #[]}],w1,{target:=.fn (.func g) vcaps,args:= #[.func (.yield l) #[] #[]]},w1,g,#[.func (.yield l) #[] #[]]++vcaps,w1,?_,?_,fun _ _=>trivial,?_,(fun h'=>by cases h'),?_⟩
 .have:=run_enterLoop_outer (P:=P) (w:=w) fn a.tmps ps asg body;rw[hw1,hrc,hl,hD];exact this
 .simp only[resolve,rangeCall,hfv];simp[Deferred.ofValue,Act.eval]
 .have hprog:(program).run P w1=.ok P w1:=rfl;simp only[invoke,callFunc,w5,hprog,qX,hfg,hng,hbg,q2,if_false,w7]
 have evs:(Value.func (.yield l) #[] #[]::vcaps.toList).toArray = #[.func (.yield l) #[] #[]]++vcaps:=by apply qQ;simp
 rw[evs]at hcallee;refine(callsIn_wide.2 hcallee).mono fun ex w3 hans=>?_
 obtain⟨v,M3,pt3,ow3,S3,rfl,hcore3,hconts3,hr3,hleft⟩:=hans;have hJE:=hcore3.blk qc;rw[hgetZ,Z4 rfl]at hJE;obtain⟨_,_,hJ⟩:=hJE;have hst:rc.state≠ .busy :=by simp[hrc]
 refine⟨_,_,run_endLoop hJ.hl hst,?_⟩;obtain⟨w4,hw4⟩:∃w4,w4=w3.putObj l (.loop {rc with state:=.exhausted}):=⟨_,rfl⟩;rw[<-hw4];have hw4ne:∀b,b≠l->w4.heap[b]? =w3.heap[b]? :=fun b hb'=>by rw[hw4];exact zx w3 _ hb'
 have hw4sz:w4.heap.size=w3.heap.size:=by rw[hw4];simp[qY]
 obtain⟨csE,TyE,hE,hE1,hE2,hE3,hE4⟩:=hJ.bx;have hsE:∀b,vbl hE=some b->w.heap.size<=b\/vbl h00=some b:=fun b hb=>by
  obtain⟨h1,h2,h3,h4⟩:=hE4 b hb;rcases hleft.sn b h1 with h5|h5
  .rcases h5 with h5|h5|h5|h5
   .exact absurd h5 h3
   .exact absurd h5 h4
   .exact absurd h5 h2
   .exact .inr h5
  .exact .inl O
 have hptI:∀i b,i∈ic->pt3 i=some b->pt i=some b:=fun i b hi hb'=>by
  rcases hleft.lept i b hb' with h1|⟨_,h1⟩
  .exact(hptR i b h1).2
  .have:=hltc i hi;omega
 have howI:∀i b,i∈ic->ow3 i=some b->ow i=some b:=fun i b hi hb'=>by
  rcases hleft.leow i b hb' with h1|⟨_,h1⟩
  .exact(howR i b h1).2
  .have:=hltc i hi;omega
 have hsame:∀b,b<w.heap.size->(∀i,i∈ic->bl pt ow i≠some b)->b≠b0->vbl h00≠some b->w4.heap[b]? =w.heap[b]? :=fun b hb' h1 h2 h3=>by
  rw[hw4ne b O,hleft.same b O (fun i hi=>h1 i (hblR i b hi).1 (hblR i b hi).2) (fun hS=>by
   rcases hS with h'|h'|h'|h'
   .omega
   .omega
   .exact h2 h'
   .exact h3 h'),he1.block b hb']
 let M4:Nat->Prop:=fun b=>M3 b/\b≠D
 have hMM:∀b,M b->M4 b:=fun b hb'=>⟨hleft.mm b (.inl hb'),by have:=hMlt b hb';omega⟩
 have hlM3:M3 l:=hcore3.gm l hJ.sl_;have hV4:∀b o,zj w M b o->zj w4 M4 b o:=zr fun b o hm hb'=>by
  have hlt:=zd hb';refine⟨fun h'=>?_,?_⟩
  .rcases hleft.mn b h'.1 with h1|h1
   .rcases h1 with h1|h1|h1
    .exact hm h1
    .omega
    .omega
   .omega
  .rw[hsame b hlt (fun i _ h1=>hm (hg.mt i b h1)) (fun h1=>hm (hg.mt i0 b (h1▸hbi0))) fun h1=>hm (hg.mt k0 b (hbk0 b h1))];exact hb'
 have hV34:∀b o,zj w3 M3 b o->zj w4 M4 b o:=zr fun b o hm hb'=>⟨fun h'=>hm h'.1,by rw[hw4ne b fun e=>hm (e▸hlM3)];exact hb'⟩
 let pt4:Nat->Option Nat:=fun i=>if i∈ic then pt3 i else pt i
 let ow4:Nat->Option Value:=fun i=>if i∈ic then ow3 i else if i=k0 then some hE else ow i
 have h4c:∀i,i∈ic->pt4 i=pt3 i/\ow4 i=ow3 i:=fun i hi=>by simp only[pt4,ow4,Z4 hi];exact⟨trivial,trivial⟩
 have h4k:pt4 k0=none/\ow4 k0=some hE:=by
  simp only[pt4,ow4,Z5 hk0c,if_true];exact⟨hg.ptow how0,trivial⟩
 have h4n:∀i,i∉ic->i≠k0->pt4 i=pt i/\ow4 i=ow i:=fun i hi hk=>by simp only[pt4,ow4,Z5 hi,Z5 hk];exact⟨trivial,trivial⟩
 have h4p:∀i b,pt4 i=some b->pt i=some b:=fun i b hb'=>by
  by_cases hi:i∈ic
  .rw[(h4c i hi).1]at hb';exact hptI i b hi hb'
  .simp only[pt4,Z5 hi]at hb';exact hb'
 have h4w:∀i b,i≠k0->ow4 i=some b->ow i=some b:=fun i b hk hb'=>by
  by_cases hi:i∈ic
  .rw[(h4c i hi).2]at hb';exact howI i b hi hb'
  .rw[(h4n i hi hk).2]at hb';exact hb'
 have hblc:∀i b,bl pt4 ow4 i=some b->(i=k0/\vbl hE=some b)\/(i≠k0/\bl pt ow i=some b):=fun i b hb'=>by
  by_cases hk:i=k0
  .refine .inl ⟨hk,?_⟩;subst hk;unfold bl at hb';rw[h4k.1,h4k.2]at hb';obtain⟨ao,n,cp,rfl⟩:=hE3.slice;cases ao<;>exact hb'
  .refine .inr ⟨hk,?_⟩;unfold bl at hb'⊢
   cases hq:pt4 i with
   |some z=>rw[hq]at hb';rw[h4p i z hq];exact hb'
   |none=>
    rw[hq]at hb'
    cases hq2:ow4 i with
    |none=>rw[hq2]at hb';cases hb'
    |some z=>
     rw[hq2]at hb';rw[hg.ptow (h4w i z hk hq2),h4w i z hk hq2];exact hb'
 let hq:Hp:=zu (zbz G.hp k0 (.buf e k (xs xE))) ic ib
 have hkk:wp G.hp k0:=zf (by rw[hc1];simp);have hqc:∀i,i∈ic->wp G.hp i->hget hq i=hget (zz ic ib) i:=fun i hi hk=>by
  show hget (zu _ ic ib) i=_;rw[qj hicnd hlib (yb.2 hk),Z4 hi]
 have hqd:∀i,¬wp G.hp i->hget hq i=.dead :=fun i hk=>by
  show hget (zu _ ic ib) i=_;rw[wc fun h'=>hk (yb.1 h')]
 have hqk:hget hq k0=.buf e k (xs xE):=by
  show hget (zu _ ic ib) k0=_;rw[qj hicnd hlib (yb.2 hkk),Z5 hk0c,jd hkk]
 have hqo:∀i,i∉ic->i≠k0->hget hq i=hget G.hp i:=fun i h1 h2=>by
  by_cases hk:wp G.hp i
  .show hget (zu _ ic ib) i=_;rw[qj hicnd hlib (yb.2 hk),Z5 h1,wk h2]
  .rw[hqd i hk];cases h':hget G.hp i<;>first|rfl|exact absurd (zf (by rw[h'];simp)) hk
 have hkeybl:∀i b,bl pt ow i=some b->wp G.hp i:=fun i b hb'=>by
  refine zf fun e=>?_
  unfold bl at hb';rw[hg.ptn (i:=i) (by rw[e];rfl),hg.own (i:=i) (by rw[e];rfl)]at hb';cases hb'
 have hH1c:∀i,i∈ic->hget ((qc,.gst (J xE))::zz ic ib) i=hget (zz ic ib) i:=fun i hi=>by rw[hgetZ,Z5 (show ¬qc=i from fun e=>hcb (e▸hi))]
 have hfinal:Rel c ⟨G.sl,hq⟩ {a with defers:= [{target:=.collected D,args:= #[]}]++a.defers} w4:=by
  refine⟨M4,pt4,ow4,S,?_,?_,?_⟩
  .exact {
    os:=by rw[hw4];exact hleft.os.trans (he1.os.trans hg.os)
    tape:=by rw[hw4];exact hleft.tape.trans (he1.tape.trans hg.tape)
    output:=by rw[hw4];exact hleft.output.trans (he1.output.trans hg.output)
    size:=by have h1:=hg.size;have h2:=he1.size;have h3:=hleft.size;omega
    keep:=fun b hb' hm=>by
     have:=hg.size;have hno:∀i,bl pt ow i≠some b:=fun i h1=>by
      rcases hg.loc i b h1 with h2|h2
      .omega
      .exact hm h2.1
     rw[hsame b O (fun i _=>hno i) (fun h1=>hno i0 (h1▸hbi0)) fun h1=>hno k0 (hbk0 b h1)];exact hg.keep b hb' hm
    fresh:=fun b hb'=>by rw[hw4sz];exact hcore3.fresh b hb'.1
    m0:=fun b hb'=>hMM b (hg.m0 b hb')
    m1:=hg.m1
    mt:=fun i b hb'=>by
     rcases hblc i b hb' with ⟨_,h1⟩|⟨_,h1⟩
     .have:=hE4 b h1;exact⟨hcore3.gm b this.1,this.2.2.1⟩
     .exact hMM b (hg.mt i b h1)
    gm:=fun b hb'=>hMM b (hg.gm b hb')
    gl:=hg.gl
    gd:=fun i b hb' hS=>by
     rcases hblc i b hb' with ⟨_,h1⟩|⟨_,h1⟩
     .rcases hsE b h1 with h2|h2
      .have:=hg.fresh b (hg.gm b hS);omega
      .exact hg.gd k0 b (hbk0 b h2) hS
     .exact hg.gd i b h1 hS
    loc:=fun i b hb'=>by
     rcases hblc i b hb' with ⟨h0,h1⟩|⟨_,h1⟩
     .rcases hsE b h1 with h2|h2
      .exact .inl (qB hg.size h2)
      .rw[h0];exact hg.loc k0 b (hbk0 b h2)
     .exact hg.loc i b h1
    farp:=fun i b hi hb'=>hg.farp i b hi (h4p i b hb')
    farw:=fun i b hi hb'=>hg.farw i b hi (h4w i b O hb')
    inj:=fun i j b hi hj=>by
     rcases hblc i b hi with ⟨h0,h1⟩|⟨h0,h1⟩<;>rcases hblc j b hj with ⟨h2,h3⟩|⟨h2,h3⟩
     .rw[h0,h2]
     .rcases hsE b h1 with h4|h4
      .have:=hbllt j b h3;omega
      .exact absurd (hg.inj j k0 b h3 (hbk0 b h4)) h2
     .rcases hsE b h3 with h4|h4
      .have:=hbllt i b h1;omega
      .exact absurd (hg.inj i k0 b h1 (hbk0 b h4)) h0
     .exact hg.inj i j b h1 h3
    dpt:=fun i b hb'=>by
     by_cases hi:i∈ic
     .rw[hqc i hi (hkeybl i b (by simp[bl,h4p i b hb']))];rw[(h4c i hi).1]at hb';rw[<-hH1c i hi];exact hcore3.dpt i b hb'
     .by_cases hk:i=k0
      .rw[hk,h4k.1]at hb';cases hb'
      .rw[hqo i hi hk];exact hg.dpt i b (h4p i b hb')
    dow:=fun i b hb'=>by
     by_cases hk:i=k0
     .rw[hk,hqk];rfl
     .have h1:=hg.dow i b (h4w i b hk hb');by_cases hi:i∈ic
      .rw[hqc i hi (zf fun e=>by rw[e]at h1;cases h1)];rw[(h4c i hi).2]at hb';rw[<-hH1c i hi];exact hcore3.dow i b hb'
      .rw[hqo i hi hk];exact h1
    blk:=fun i=>by
     by_cases hi:i∈ic
     .by_cases hk:wp G.hp i
      .rw[hqc i hi hk];have h1:=hcore3.blk i;rw[hH1c i hi]at h1;have hne:i≠qc:=fun e=>hcb (e▸hi)
       cases e2:hget (zz ic ib) i with
       |gst J'=>rw[e2]at h1;exact absurd h1.1 hne
       |free=>trivial
       |dead=>trivial
       |cells m=>
        rw[e2]at h1;obtain⟨b,cs,Ty,h3,h4⟩:=h1;exact⟨b,cs,Ty,by rw[(h4c i hi).1];exact h3,by rw[hw4ne b fun e=>hcore3.gd i b (by simp[bl,h3]) (e▸hJ.sl_)];exact h4⟩
       |buf et k xs=>
        rw[e2]at h1;obtain⟨hd',h3,h4⟩:=h1;exact⟨hd',by rw[(h4c i hi).2];exact h3,h4.mono hV34 fun b cap cs hh hcs=>by rw[hw4ne b fun e=>hcore3.gd i b (by simp[bl,hcore3.ptow h3,h3,hh]) (e▸hJ.sl_)];exact hcs⟩
       |map kk vk m=>
        rw[e2]at h1;obtain⟨b,es,clk,h3,h4,h5⟩:=h1;exact⟨b,es,clk,by rw[(h4c i hi).1];exact h3,by rw[hw4ne b fun e=>hcore3.gd i b (by simp[bl,h3]) (e▸hJ.sl_)];exact h4,h5.mono hV34⟩
      .rw[hqd i hk];trivial
     .by_cases hk:i=k0
      .rw[hk,hqk];exact⟨hE,h4k.2,hE3.mono hV34 fun b cap cs e1 e2=>by rw[hw4ne b (hE4 b (by rw[e1];rfl)).2.2.2];exact e2⟩
      .rw[hqo i hi hk];by_cases hi2:i=i0
       .rw[hi2,hc0];exact⟨b0,csE,TyE,by rw[(h4n i0 hi0c fun e=>hk0i e.symm).1];exact hp0,by rw[hw4ne b0 O];exact hE1⟩
       .refine(hg.blk i).mono (h4n i hi hk).1 (h4n i hi hk).2 hV4 (fun _=>hg.ptow) (fun b o hb' hh=>?_) fun b o hS hh=>?_
        .rw[hsame b (zd hh) (fun j hj h1=>hi (hg.inj i j b hb' h1▸hj)) (fun h1=>hi2 (hg.inj i i0 b hb' (h1▸hbi0))) fun h1=>hk (hg.inj i k0 b hb' (hbk0 b h1))];exact hh
        .rw[hsame b (zd hh) (fun j _ h1=>hg.gd j b h1 hS) (fun h1=>hg.gd i0 b (h1▸hbi0) hS) fun h1=>hg.gd k0 b (hbk0 b h1) hS];exact hh}
  .intro ptQ owQ hag;have hnf:∀i,(hget G.hp i).isFree =false->(hget hq i).isFree =false:=fun i hi0'=>by
    by_cases hi:i∈ic
    .by_cases hk:wp G.hp i
     .rw[hqc i hi hk];exact jb hnfb
     .rw[hqd i hk];rfl
    .by_cases hk:i=k0
     .rw[hk,hqk];rfl
     .rw[hqo i hi hk];exact hi0'
   have hnfc':∀i,i∈ic->(hget hq i).isFree =false:=fun i hi=>by
    by_cases hk:wp G.hp i
    .rw[hqc i hi hk];exact jb hnfb
    .rw[hqd i hk];rfl
   let pt5:Nat->Option Nat:=fun i=>if(hget G.hp i).isFree =true then ptQ i else pt i
   let ow5:Nat->Option Value:=fun i=>if(hget G.hp i).isFree =true then owQ i else ow i
   have hag5:Agr G.hp pt pt5 ow ow5:=fun i hi=>by simp[pt5,ow5,hi]
   have hp5:∀i b,ptQ i=some b->pt5 i=some b:=fun i b hb'=>by
    by_cases hfr:(hget G.hp i).isFree =true
    .simpa[pt5,hfr]using hb'
    .have hfr':(hget G.hp i).isFree =false:=by simpa using hfr
     simp only[pt5,hfr',q2,if_false];rw[(hag i (hnf i hfr')).1]at hb';exact h4p i b hb'
   have ho5:∀i b,i≠k0->owQ i=some b->ow5 i=some b:=fun i b hk hb'=>by
    by_cases hfr:(hget G.hp i).isFree =true
    .simpa[ow5,hfr]using hb'
    .have hfr':(hget G.hp i).isFree =false:=by simpa using hfr
     simp only[ow5,hfr',q2,if_false];rw[(hag i (hnf i hfr')).2]at hb';exact h4w i b hk hb'
   have hle5:∀ids:List Nat,k0∉ids->Env.le ⟨zj w M,pt5,ow5⟩ ⟨zj w4 M4,ptQ,owQ⟩ ids:=fun ids zas=>⟨hV4,fun i hi=>⟨hp5 i,fun b hb=>ho5 i b (fun e=>zas (e▸hi)) hb⟩⟩
   obtain⟨h1,h2⟩:=hs pt5 ow5 hag5;refine⟨h1.imp _ _ (hle5 _ hk0sl),fun i m b cs Ty hm hb' hcs=>?_⟩;by_cases hi:i∈ic
   .have hbo:=h4p i b hb';rw[hqc i hi (hkeybl i b (by simp[bl,hbo]))]at hm;rw[(h4c i hi).1]at hb';have hne:b≠l:=by have:=hptlt i b hbo;omega
    rw[hw4ne b hne]at hcs;refine Rs.imp (ρ:=⟨zj w3 M3,pt3,ow3⟩) m _ ⟨hV34,fun j hj=>?_⟩ (hconts3 i m b cs Ty (by rw[hH1c i hi];exact hm) hb' hcs);have hjc:j∈ic:=hsub1 j (vf hm j hj);have hx:=hag j (hnfc' j hjc);exact⟨fun z hz=>by have:=hx.1.symm.trans hz;rw[(h4c j hjc).1]at this;exact this,fun z hz=>by have:=hx.2.symm.trans hz;rw[(h4c j hjc).2]at this;exact this⟩
   .by_cases hk:i=k0
    .rw[hk,hqk]at hm;cases hm
    .rw[hqo i hi hk]at hm;rw[(h4n i hi hk).1]at hb';by_cases hi2:i=i0
     .rw[hi2]at hm hb';rw[hc0]at hm;cases hm
      rw[hp0]at hb';cases hb'
      rw[hw4ne b0 O,hE1]at hcs;cases hcs
      rw[hE2];refine⟨⟨hE3.slice,fun x hx=>?_⟩,trivial⟩;have hx':owQ k0=some x:=hx;rw[(hag k0 (by rw[hqk];rfl)).2,h4k.2]at hx';exact Option.some.inj hx'
     .obtain⟨b',cs',Ty',h3,h4⟩:=hg.cel i m hm;rw[hb']at h3;cases h3
      have hb'':bl pt ow i=some b:=by simp[bl,hb']
      rw[hsame b (zd h4) (fun j hj h1=>hi (hg.inj i j b hb'' h1▸hj)) (fun h1=>hi2 (hg.inj i i0 b hb'' (h1▸hbi0))) (fun h1=>hk (hg.inj i k0 b hb'' (hbk0 b h1))),h4]at hcs;cases hcs
      refine(h2 i m b cs Ty hm hb' h4).imp _ _ (hle5 _ fun hj=>hk0h ?_);exact vf (i:=i) (by rw[wk hi2];exact hm) k0 hj
  .obtain⟨Ds,h1,h2,h3⟩:=hd;refine⟨D::Ds,by simp[h1,za2],?_,fun d hd'=>?_⟩
   .rw[qP];exact⟨fun h'=>by have:=zd (h3 D h').2.2;omega,h2⟩
   .rcases q3.1 hd' with rfl|hd'
    .exact⟨by rw[hD];exact hg.size,fun h'=>h'.2 rfl,by rw[hw4ne d O];exact hJ.hd⟩
    .exact⟨(h3 d hd').1,hV4 _ _ (h3 d hd').2⟩
 have:rc.pending=none:=by simp[hrc]
 rw[this];exact hQ _ _ hfinal
end
theorem zpl{P:Program}{T:Tab}(hT:TabOK P T)(hmx:P.follows .mixedOrders =true){res:List ResultVar}{ex:List Nat}{rv:AV}{H':Hp}{x asg body rest:Code}{id:Nat}{f:Operand}{ps:Array Tmp}{sl:List AV}{hp:Hp}
 (σ1:St) (hfr:xr (zcg σ1.hp) σ1.ids=true)
 (h1:zgq sl fun sl=>zla hp fun hp=>kz T (CN P) x true ⟨sl,hp⟩ (fun G=>leS G σ1) (fun _ _=>False) (fun _=>False))
 {g:Nat} {caps:List AV} (hf:zg σ1.sl f=.fn g caps) {i0 k0 bi ob:Nat} {e:TypeId} {k:Elt} {X Y:Type} {xs:X->List k.T} {args:Y->List AV} {next:X->Y->X} {x₀ xE:X} {r:AV} {ib:List Blk} (hbi:bi=ur i0)
 (hc0:hget σ1.hp i0=.cells [.own k0]) (hc1:hget σ1.hp k0=.buf e k (xs x₀)) (hok:roOk T σ1.sl σ1.hp g i0 k0 bi ob caps ib (za T asg++za T body)=true) (hargs:∀y,znj (qf (args y))=true)
 (ok:X->Prop) (hcall:∀(l:Nat)(J:X->GJ),(∀x y,ok x->zuk P l [(qc,.gst (J x))] (args y) (.bool true) [(qc,.gst (J (next x y)))])->
   zcm P g ((qc,.gst (J x₀))::zz (nub (qf caps)) (zw σ1.hp (nub (qf caps)))) (.cb l::caps) r ((qc,.gst (J xE))::zz (nub (qf caps)) ib))
 (hbody:∀x y,ok x->∃z,z≠bi/\zb6 ps.toList (args y) (zb5 [i0] σ1.sl) fun sl=>zla (zbg (qa (za T asg++za T body)) (zml bi ob e k (xs x))) fun hp=>
   kz T (CN P) asg false ⟨sl,hp⟩ (fun U=>kz T (CN P) body false U (fun U=>EndO bi z e k (xs (next x y)) U) (fun _ _=>False) (fun _=>False)) (fun _ _=>False) (fun _=>False))
 (h2:SemOK P T res ex rv H' rest ⟨σ1.sl,zu (zbz σ1.hp k0 (.buf e k (xs xE))) (nub (qf caps)) ib⟩):
 SemOK P T res ex rv H' (.seq (.seq x (.block id (.rangeFunc f ps asg body))) rest) ⟨sl,hp⟩:=by
 rw[qk,wl,ye,yd]at h1;refine⟨fun c0 a w Q hr hq=>wpIn_seq (wpIn_seq (zy hT hmx x true ⟨qW,.inl rfl⟩ c0 _ _ _ a w (fun _=>rfl) hr h1 fun ex1 σ' a' w' hr' hk'=>?_))⟩
 cases ex1 with
 |normal=>
  have hle:leS σ' σ1:=hk';have hr1:=hr'.weaken hle hfr;refine wpIn_block (zjp (T:=T) (fun F' c' σ'' K' Q' a'' w'' h' hk'' hQ'=>zy hT hmx asg false F' c' σ'' K' Q' a'' w'' (fun e=>by cases e) h' hk'' hQ')
   (fun F' c' σ'' K' Q' a'' w'' h' hk'' hQ'=>zy hT hmx body false F' c' σ'' K' Q' a'' w'' (fun e=>by cases e) h' hk'' hQ') hr1 hf hbi hc0 hc1 hok hargs ok hcall (fun xx y hxx=>?_) (fun a2 w2 hr2=>?_))
  .obtain⟨z,hz,hb⟩:=hbody xx y hxx;obtain⟨hl,hb⟩:=yf _ _ _ _ hb;refine⟨z,hz,zib _ _ _ _ hl ?_⟩;rw[wl,ye,yd]at hb;have e1:∀(B:St->Prop),K3 B (fun _ _=>False) (fun _=>False)=fun x G=>match x with
    |.normal =>B G
    | _=>False:=fun B=>by funext x G;cases x<;>rfl
   have e2:(fun U=>kz T (CN P) body false U (fun U=>EndO bi z e k (xs (next xx y)) U) (fun _ _=>False) (fun _=>False))=fun U=>vl T (CN P) false body U (K3 (fun U=>EndO bi z e k (xs (next xx y)) U) (fun _ _=>False) (fun _=>False)):=by
    funext U;rw[ye,yd]
   rw[e2,e1]at hb;simp only[e1]at hb;exact hb
  .exact h2.sem c0 a2 w2 Q hr2 hq
 | _=>exact hk'.elim
theorem za9{hp:Hp}{k:Nat}{b:Blk}(hk:¬wp hp k)(i:Nat):hget (hp++ [(k,b)]) i=if i=k then b else hget hp i:=by
 induction hp with
 |nil=>
  rw[List.nil_append,ze];by_cases e:k=i
  .rw[Z4 e,Z4 e.symm]
  .rw[Z5 e,Z5 fun h=>e h.symm]
 |cons x r ih=>
  obtain⟨a,y⟩:=x;have hak:a≠k:=fun e=>hk (by simp[wp,e])
  have hr:¬wp r k:=fun e=>hk (by simp only[wp,qH,q3];exact .inr e)
  rw[qF,ze,ze,ih hr];by_cases e:a=i
  .rw[Z4 e,Z4 e,Z5 fun h=>hak (e.trans h)]
  .rw[Z5 e,Z5 e]
theorem Rel.addKey{c:Ctx}{sl:List AV}{hp:Hp}{a:Act}{w:World}(h:Rel c ⟨sl,hp⟩ a w){k:Nat}(hk:¬wp hp k)(h1:k∉qf sl)(h2:k∉zas hp):Rel c ⟨sl,hp++ [(k,.free)]⟩ a w:=by
 obtain⟨M,pt,ow,S,hg,hs,hd⟩:=h;have hdead:hget hp k=.dead :=by
  cases e:hget hp k<;>first|rfl|exact absurd (zf (by rw[e];simp)) hk
 have hp0:pt k=none:=hg.ptn (by rw[hdead];rfl);have ho0:ow k=none:=hg.own (by rw[hdead];rfl);refine⟨M,pt,ow,S,?_,?_,hd⟩
 .exact {
   os:=hg.os,tape:=hg.tape,output:=hg.output,size:=hg.size,keep:=hg.keep,fresh:=hg.fresh,m0:=hg.m0,m1:=hg.m1,mt:=hg.mt,loc:=hg.loc,farp:=hg.farp,farw:=hg.farw,inj:=hg.inj,gm:=hg.gm,gl:=hg.gl,gd:=hg.gd
   dpt:=fun i b hb=>by
    rw[za9 hk,Z5 fun e=>by rw[e,hp0]at hb;cases hb];exact hg.dpt i b hb
   dow:=fun i b hb=>by
    rw[za9 hk,Z5 fun e=>by rw[e,ho0]at hb;cases hb];exact hg.dow i b hb
   blk:=fun i=>by
    rw[za9 hk];split
    .trivial
    .exact hg.blk i}
 .intro pt' ow' hag
  let pt2:Nat->Option Nat:=fun i=>if i=k then none else pt' i
  let ow2:Nat->Option Value:=fun i=>if i=k then none else ow' i
  have hag2:Agr hp pt pt2 ow ow2:=fun i hi=>by
   by_cases e:i=k
   .subst e;simp only[pt2,ow2,if_true];exact⟨hp0.symm,ho0.symm⟩
   .simp only[pt2,ow2,Z5 e];exact hag i (by rw[za9 hk,Z5 e];exact hi)
  have hle:∀ids:List Nat,k∉ids->Env.le ⟨zj w M,pt2,ow2⟩ ⟨zj w M,pt',ow'⟩ ids:=fun ids hid=>⟨fun _ _ h=>h,fun i hi=>by
   have e:i≠k:=fun e=>hid (e▸hi)
   exact⟨fun b hb=>by show pt2 i=some b;simp only[pt2,Z5 e];exact hb,fun b hb=>by show ow2 i=some b;simp only[ow2,Z5 e];exact hb⟩⟩
  obtain⟨h3,h4⟩:=hs pt2 ow2 hag2;refine⟨h3.imp _ _ (hle _ h1),fun i l b cs T hl hb hcs=>?_⟩;rw[za9 hk]at hl;split at hl
  .cases hl
  .exact(h4 i l b cs T hl hb hcs).imp _ _ (hle _ fun hj=>h2 (vf hl k hj))
theorem zy5{P:Program}{T:Tab}{res:List ResultVar}{ex:List Nat}{rv:AV}{H':Hp}{c:Code}{sl:List AV}{hp:Hp}(k:Nat)(hk:xr [k] (keys hp++qf sl++zas hp)=true)
 (h:SemOK P T res ex rv H' c ⟨sl,hp++ [(k,.free)]⟩):SemOK P T res ex rv H' c ⟨sl,hp⟩:=by
 have h0:=(qo _ _).1 hk k OC;simp only[q8,not_or]at h0;exact⟨fun c0 a w Q hr hq=>h.sem c0 a w Q (hr.addKey (fun e=>h0.1.1 (yt.2 e)) h0.1.2 h0.2) hq⟩
def toG(g:Nat->Value):AV->AV
 |.own k=>.val (g k)
 |.ptr i o=>.ptr (ur i) o
 |.mp i=>.mp (ur i)
 |a=>a
def qbo(g:Nat->Value):List AV->List AV
 | []=> []
 |a::l=>toG g a::qbo g l
def tgB(g:Nat->Value):Blk->Blk
 |.cells l=>.cells (qbo g l)
 |b=>b
def zk7(g:Nat->Value):List Blk->List Blk
 | []=> []
 |b::r=>tgB g b::zk7 g r
def okG(is os:List Nat):AV->Bool
 |.own k=>zgt [k] os
 |.ptr i _=>zgt [i] is
 |.mp i=>zgt [i] is
 |a=>znj a.ids
def zur(is os:List Nat):List AV->Bool
 | []=>true
 |a::l=>okG is os a&&zur is os l
def zvn(is os:List Nat):List Blk->Bool
 | []=>true
 |.cells l::r=>zur is os l&&zvn is os r
 |.map _ _ _::r=>zvn is os r
 | _=>false
def zwp:List Blk->Bool
 | []=>true
 |.buf _ _ _::r=>zwp r
 | _=>false
def qbd(is os:List Nat)(b:Blk):Prop:=(∃l,b=.cells l/\zur is os l=true)\/∃kk vk m,b=.map kk vk m
theorem zbm{is os:List Nat}:∀ {bs:List Blk},zvn is os bs=true->∀b∈bs,qbd is os b
 | [],_,_,h=>by cases h
 |.cells l::r,h,b,hb=>by
   simp only[zvn,q1]at h;rcases q3.1 hb with rfl|hb
   .exact .inl ⟨l,rfl,h.1⟩
   .exact zbm h.2 b hb
 |.map kk vk m::r,h,b,hb=>by
   simp only[zvn]at h;rcases q3.1 hb with rfl|hb
   .exact .inr ⟨_,_,_,rfl⟩
   .exact zbm h b hb
 |.buf _ _ _::_,h,_,_=>by cases h
 |.free ::_,h,_,_=>by cases h
 |.dead ::_,h,_,_=>by cases h
 |.gst _::_,h,_,_=>by cases h
theorem ztt:∀ {os:List Nat}{hp:Hp},zwp (zw hp os)=true->∀k∈os,∃e t xs,hget hp k=.buf e t xs:=by
 intro os hp
 induction os with
 |nil=>intro _ k hk;cases hk
 |cons o os ih=>
  intro h k hk;simp only[zw]at h;cases e:hget hp o<;>rw[e]at h<;>simp only[zwp,q2]at h
  rcases q3.1 hk with rfl|hk
  .exact⟨_,_,_,e⟩
  .exact ih h k hk
theorem qbd.isPt{is os:List Nat}{b:Blk}(h:qbd is os b):b.isPt=true:=by
 rcases h with ⟨_,rfl,_⟩|⟨_,_,_,rfl⟩<;>rfl
theorem zlx{is os:List Nat}:∀ {l:List AV},zur is os l=true->∀j∈qf l,j∈is\/j∈os
 | [],_,j,hj=>by cases hj
 |a::l,h,j,hj=>by
  simp only[zur,q1]at h;simp only[qf,q8]at hj;rcases hj with hj|hj
  .have h1:=h.1;cases a<;>simp only[okG]at h1<;>first
    |(simp only[AV.ids,q6]at hj;subst hj;first|exact .inl (vz _ _ h1 _ OC)|exact .inr (vz _ _ h1 _ OC))
    |(rw[zai h1]at hj;cases hj)
  .exact zlx h.2 j hj
theorem zfy(g:Nat->Value):∀(is:List Nat)(bs:List Blk)(i:Nat),hget (zz is (zk7 g bs)) i=tgB g (hget (zz is bs) i)
 | [],_,_=>rfl
 | _::_,[],_=>rfl
 |j::is,b::bs,i=>by
  simp only[zk7,zz];rw[ze,ze];split
  .rfl
  .exact zfy g is bs i
theorem R_toG{V:jp}{pt pt':Nat->Option Nat}{og ow':Nat->Option Value}{g:Nat->Value}{is os:List Nat}(hog:∀k∈os,og k=some (g k))(h:∀i∈is,∀b,pt' (ur i)=some b->pt i=some b){a:AV}{v:Value}(hok:okG is os a=true)
 (hr:R ⟨V,pt,og⟩ a v):R ⟨V,pt',ow'⟩ (toG g a) v:=by
 cases a<;>simp only[okG]at hok<;>simp only[toG]<;>first
  |exact R.imp (ρ:=⟨V,pt,og⟩) _ _ ⟨fun _ _ h=>h,fun j hj=>by rw[zai hok]at hj;cases hj⟩ hr
  |(have hi:=vz _ _ hok _ (q6.2 rfl)
    simp only[R]at hr⊢
    first
     |exact⟨hr.1,fun b hb=>hr.2 b (h _ hi b hb)⟩
     |(obtain⟨⟨x,n,c,rfl⟩,h2⟩:=hr
       exact⟨h2 _ (hog _ hi),rfl⟩))
theorem zyd{V:jp}{pt pt':Nat->Option Nat}{og ow':Nat->Option Value}{g:Nat->Value}{is os:List Nat}(hog:∀k∈os,og k=some (g k))(h:∀i∈is,∀b,pt' (ur i)=some b->pt i=some b):∀ {l:List AV}{vs:List Value},zur is os l=true->
 Rs ⟨V,pt,og⟩ l vs->Rs ⟨V,pt',ow'⟩ (qbo g l) vs
 | [],[],_,_=>trivial
 | [],_::_,_,h=>h.elim
 | _::_,[],_,h=>h.elim
 |a::l,v::vs,hok,hr=>by
  simp only[zur,q1]at hok;exact⟨R_toG hog h hok.1 hr.1,zyd hog h hok.2 hr.2⟩
theorem R_ofG{V:jp}{pt ptN:Nat->Option Nat}{og owN:Nat->Option Value}{g:Nat->Value}{is os:List Nat}(hog:∀k∈os,og k=some (g k))(hsl:∀k∈os,∃a n c,g k=.slice a n c)(h:∀i∈is,∀b,pt i=some b->ptN (ur i)=some b){a:AV}{v:Value}
 (hok:okG is os a=true) (hr:R ⟨V,ptN,owN⟩ (toG g a) v):R ⟨V,pt,og⟩ a v:=by
 cases a<;>simp only[okG]at hok<;>simp only[toG]at hr<;>first
  |exact R.imp (ρ:=⟨V,ptN,owN⟩) _ _ ⟨fun _ _ h=>h,fun j hj=>by rw[zai hok]at hj;cases hj⟩ hr
  |(have hi:=vz _ _ hok _ (q6.2 rfl)
    simp only[R]at hr⊢
    first
     |exact⟨hr.1,fun b hb=>hr.2 b (h _ hi b hb)⟩
     |(obtain⟨rfl,_⟩:=hr
       exact⟨hsl _ hi,fun x hx=>by rw[hog _ hi]at hx;exact Option.some.inj hx⟩))
theorem zye{V:jp}{pt ptN:Nat->Option Nat}{og owN:Nat->Option Value}{g:Nat->Value}{is os:List Nat}(hog:∀k∈os,og k=some (g k))(hsl:∀k∈os,∃a n c,g k=.slice a n c)(h:∀i∈is,∀b,pt i=some b->ptN (ur i)=some b):
 ∀ {l:List AV}{vs:List Value},zur is os l=true->Rs ⟨V,ptN,owN⟩ (qbo g l) vs->Rs ⟨V,pt,og⟩ l vs
 | [],[],_,_=>trivial
 | [],_::_,_,h=>h.elim
 | _::_,[],_,h=>h.elim
 |a::l,v::vs,hok,hr=>by
  simp only[zur,q1]at hok;exact⟨R_ofG hog hsl h hok.1 hr.1,zye hog hsl h hok.2 hr.2⟩
def qft(w:World)(V:jp)(pt:Nat->Option Nat)(og:Nat->Option Value)(i:Nat):Blk->Prop
 |.cells l=>∃b cs T,pt i=some b/\w.heap[b]? =some (.cells cs T (0,0))/\Rs ⟨V,pt,og⟩ l cs.toList
 |.map kk vk m=>∃b es clk,pt i=some b/\w.heap[b]? =some (.map es clk)/\zuu V kk vk m es clk
 | _=>False
structure GhostG(is:List Nat)(pt:Nat->Option Nat)(og:Nat->Option Value)(bs:List Blk)(sl:List AV)(tm:Array Value)(D l:Nat)(rc:Loop)(S:Nat->Prop)(V:jp)(w:World):Prop where
 sd:S D
 sl_:S l
 hd:w.heap[D]? =some (.deferred (some []))
 hl:w.heap[l]? =some (.loop rc)
 si:∀i∈is,∀b,pt i=some b->S b
 bk:∀i∈is,qft w V pt og i (hget (zz is bs) i)
 rs:Rs ⟨V,ptB is pt,fun _=>none⟩ (zb5 is sl) tm.toList
theorem qft.mono{w w':World}{V V':jp}{pt:Nat->Option Nat}{og:Nat->Option Value}{i:Nat}{x:Blk}(hV:CLe V V')(hb:∀b o,pt i=some b->w.heap[b]? =some o->w'.heap[b]? =some o)(h:qft w V pt og i x):qft w' V' pt og i x:=by
 cases x with
 |cells l=>obtain⟨b,cs,T,h1,h2,h3⟩:=h;exact⟨b,cs,T,h1,hb b _ h1 h2,h3.cmono hV⟩
 |map kk vk m=>obtain⟨b,es,clk,h1,h2,h3⟩:=h;exact⟨b,es,clk,h1,hb b _ h1 h2,h3.cmono hV⟩
 | _=>exact h
theorem GhostG.stab(is:List Nat)(pt:Nat->Option Nat)(og:Nat->Option Value)(bs:List Blk)(sl:List AV)(tm:Array Value)(D l:Nat)(rc:Loop):qfd (GhostG is pt og bs sl tm D l rc):=
 fun S V V' w w' hV hS h=>⟨h.sd,h.sl_,hS _ _ h.sd h.hd,hS _ _ h.sl_ h.hl,h.si,fun i hi=>(h.bk i hi).mono hV fun b o hb hh=>hS b o (h.si i hi b hb) hh,h.rs.cmono hV⟩
section
variable {P:Program} {T:Tab} {F:Wf} {c:Ctx} {G:St} {a:Act} {w:World}
set_option maxHeartbeats 1000000 in
theorem zlg(g:Nat->Value){b:Blk}(h:b.isPt=true):(tgB g b).isPt =true:=by cases b<;>first|exact h|rfl
theorem zrs{asg body:Code}(ihA:ut P T asg)(ihB:ut P T body){is:List Nat}{pt:Nat->Option Nat}{bs bs':List Blk}{sl:List AV}{tm:Array Value}{D l fn:Nat}{ps:Array Tmp}{X:List Nat}{A:List AV}{os:List Nat}{og:Nat->Option Value}{g:Nat->Value}(hog:∀k∈os,og k=some (g k))(hslc:∀k∈os,∃a n c,g k=.slice a n c)
 (hinj:∀i∈is,∀j∈is,∀b,pt i=some b->pt j=some b->i=j) (hlt:∀i∈is,∀b,pt i=some b->b<D) (hlD:l=D+1)
 (hpl:zvn is os bs=true) (hle1:xo is bs=true) (hpl':zvn is os bs'=true) (hle2:xo is bs'=true) (hX:∀i∈X,i∉zar is) (hA:znj (qf A)=true) (rc:Loop)
 (hrc:rc= {state:=.ready,pending:=none,fn:=fn,tmps:=tm,params:=ps,assign:=asg,body:=body,defers:=D})
 (hk:zb6 ps.toList A (zb5 is sl) fun sl=>vl T (CN P) false asg ⟨sl,zbg (qa X) (zz (zar is) (zk7 g bs))⟩ fun e U=>match e with
   |.normal =>vl T (CN P) false body U fun e U=>match e with
     |.normal =>zi5 is (zk7 g bs') U
     | _=>False
   | _=>False):
 zuk P l [(qc,.gst (GhostG is pt og bs sl tm D l rc))] A (.bool true) [(qc,.gst (GhostG is pt og bs' sl tm D l rc))]:=by
 intro W M2 pt2 ow2 S2 vs hcore hconts hvs;have hpt2:∀i,pt2 i=none:=fun i=>hcore.ptn (by rw[wy];split<;>rfl)
 have how2:∀i,ow2 i=none:=fun i=>hcore.own (by rw[wy];split<;>rfl)
 have hb2:∀i b,bl pt2 ow2 i≠some b:=fun i b h=>by simp[bl,hpt2,how2]at h
 have hJ:=hcore.blk qc;rw[wy,Z4 rfl]at hJ;obtain⟨_,_,hJ⟩:=hJ;obtain⟨hlen,hk⟩:=yf _ _ _ _ hk;have hA':=zai hA;have hy:=run_yield (P:=P) (args:=vs.toArray) hJ.hl (by rw[hrc];simp;rw[<-hvs.length,<-hlen];simp);refine⟨rc.fn,_,rc.assign,rc.body,hy,roundIn_of_wpIn trivial ?_⟩;have hlM:M2 l:=hcore.gm l hJ.sl_;have hlW:l<W.heap.size:=zd hJ.hl;have hDW:D<W.heap.size:=zd hJ.hd
 let c1:Ctx:= {M0:=M2,w0:=W,mine:=fun b=>∃i,i∈is/\pt i=some b,sm:=fun _=>False,pt0:=ptB is pt,ow0:=fun _=>none}
 have hmine:∀b,c1.mine b->b<D/\S2 b:=fun b ⟨i,hi,hb⟩=>⟨hlt i hi b hb,hJ.si i hi b hb⟩
 have hblB:∀j b,bl (ptB is pt) (fun _=>none) j=some b->∃i,i∈is/\j=ur i/\pt i=some b:=fun j b h=>by
  unfold bl at h
  cases hq:ptB is pt j with
  |some z=>rw[hq]at h;cases h;exact zcy hq
  |none=>rw[hq]at h;cases h
 have hgetb:∀i,i∈is->hget (zbg (qa X) (zz (zar is) (zk7 g bs))) (ur i)=tgB g (hget (zz is bs) i):=fun i hi=>by
  rw[zt fun h=>hX _ h ((zsn _ _).2 ⟨i,hi,rfl⟩),zba,zfy]
 have hpb:∀i,i∈is->qbd is os (hget (zz is bs) i):=fun i hi=>zbm hpl _ (wj hle1 hi)
 have hrel:Rel c1 ⟨psG ps.toList A (zb5 is sl),zbg (qa X) (zz (zar is) (zk7 g bs))⟩ {tmps:=(rc.params.zip vs.toArray).foldl (fun tmps(t,a)=>tmps.setIfInBounds t a) rc.tmps,defers:= []} W:=by
  refine⟨M2,ptB is pt,fun _=>none,fun _=>False,?_,?_,.nil⟩
  .exact {
    os:=rfl,tape:=rfl,output:=rfl,size:=qG _,keep:=fun _ _ _=>rfl,fresh:=hcore.fresh,m0:=fun _ h=>h,m1:=hcore.fresh
    mt:=fun j b hb=>by obtain⟨i,h1,h2,h3⟩:=hblB j b hb;exact hcore.gm b (hJ.si i h1 b h3)
    inj:=fun j k b hj hk=>by
     obtain⟨i,h1,h2,h3⟩:=hblB j b hj;obtain⟨i',h1',h2',h3'⟩:=hblB k b hk;rw[h2,h2',hinj i h1 i' h1' b h3 h3']
    gm:=fun b h=>h.elim,gl:=fun b h=>h.elim,gd:=fun _ _ _ h=>h
    loc:=fun j b hb=>by obtain⟨i,h1,h2,h3⟩:=hblB j b hb;exact .inr ⟨⟨i,h1,h3⟩,by rw[h2];unfold ur;omega⟩
    farp:=fun _ _ _ h=>h,farw:=fun _ _ _ h=>.inl h
    dpt:=fun j b hb=>by
     obtain⟨i,h1,h2,h3⟩:=zcy hb;rw[h2,hgetb i h1];exact zlg g (hpb i h1).isPt
    dow:=fun j b hb=>by cases hb
    blk:=fun j=>by
     by_cases hjX:j∈X
     .rw[wo hjX];trivial
     .by_cases hj:j∈zar is
      .obtain⟨i,hi,rfl⟩:=(zsn _ _).1 hj;rw[hgetb i hi];have hbk:=hJ.bk i hi;rcases hpb i hi with ⟨m,e,_⟩|⟨kk,vk,m,e⟩
       .rw[e]at hbk⊢;obtain⟨b,cs,Ty,h1,h2,_⟩:=hbk;exact⟨b,cs,Ty,by rw[ud hi];exact h1,h2⟩
       .rw[e]at hbk⊢;obtain⟨b,es,clk,h1,h2,h3⟩:=hbk;exact⟨b,es,clk,by rw[ud hi];exact h1,h2,h3⟩
      .rw[zt hjX,qg hj];trivial}
  .intro pt' ow' hag;have hle:Env.le ⟨zj W M2,ptB is pt,fun _=>none⟩ ⟨zj W M2,pt',ow'⟩ (qf (psG ps.toList A (zb5 is sl))):=⟨fun _ _ h=>h,fun j hj=>by
    have hj':j∈zar is:=by
     rcases ziv _ _ _ _ hj with h|h
     .rw[hA']at h;cases h
     .exact zaj _ _ _ h
    obtain⟨i,hi,rfl⟩:=(zsn _ _).1 hj';have:=hag (ur i) (by rw[hgetb i hi];exact jm (zlg g (hpb i hi).isPt));exact⟨fun b hb=>this.1.symm.trans hb,fun b hb=>this.2.symm.trans hb⟩⟩
   refine⟨?_,fun j m b cs Ty hm hb hcs=>?_⟩
   .have hvs':Rs ⟨zj W M2,ptB is pt,fun _=>none⟩ A vs:=Rs.imp (ρ:=⟨zj W M2,pt2,ow2⟩) A vs ⟨fun _ _ h=>h,fun i hi=>by rw[hA']at hi;cases hi⟩ hvs;have h1:=znb ps.toList A vs (zb5 is sl) tm hvs' hJ.rs;have e:((rc.params.zip vs.toArray).foldl (fun tmps(t,a)=>tmps.setIfInBounds t a) rc.tmps)=(ps.toList.zip vs).foldl (fun t(p,v)=>t.setIfInBounds p v) tm:=by
     rw[hrc,<-qI];simp
    rw[e];exact h1.imp _ _ hle
   .by_cases hjX:j∈X
    .rw[wo hjX]at hm;cases hm
    .by_cases hj:j∈zar is
     .obtain⟨i,hi,rfl⟩:=(zsn _ _).1 hj;rw[hgetb i hi]at hm;have hbk:=hJ.bk i hi;rcases hpb i hi with ⟨m',e,he⟩|⟨_,_,_,e⟩
      .rw[e]at hm hbk;cases hm
       obtain⟨b',cs',Ty',h1,h2,h3⟩:=hbk;rw[ud hi,h1]at hb;cases hb
       rw[h2]at hcs;cases hcs
       refine zyd hog (fun j hj z hz=>?_) he h3;have hag':=hag (ur j) (by rw[hgetb j hj];exact jm (zlg g (hpb j hj).isPt));rw[<-ud (pt:=pt) hj];exact hag'.1.symm.trans hz
      .rw[e]at hm;cases hm
     .rw[zt hjX,qg hj]at hm;cases hm
 have hrcA:rc.assign=asg:=by rw[hrc]
 have hrcB:rc.body=body:=by rw[hrc]
 rw[hrcA,hrcB];refine ihA ⟨qW.inRound l,.inr ⟨l,rfl⟩⟩ c1 _ _ _ _ W hrel hk fun e U a1 W1 hr hk1=>?_
 cases e with
 |normal=>
  have hL1:W1.heap[l]? =some (.loop rc):=by
   obtain⟨_,_,_,_,hg,_⟩:=hr;rw[hg.keep l hlW fun h=>by have:=(hmine l h).1;omega];exact hJ.hl
  refine⟨_,run_beginRound hL1 (by rw[hrc]),?_⟩;have hr2:=hr.touch (.loop {rc with state:=.busy}) hlM (fun h=>by have:=(hmine l h).1;omega) hlW (by rw[hJ.hl];simp);refine ihB ⟨qW.inRound l,.inr ⟨l,rfl⟩⟩ _ _ _ _ a1 _ hr2 hk1 fun e τ2 a2 W2 hr3 hk2=>?_
  have fin:∀(jump:Option Code)(rc':Loop),rc'= {rc with state:=if jump.isNone then .ready else .done,pending:=jump}->jump.isNone=true->zi5 is (zk7 g bs') τ2->
   ∃v w',(Instr.endRound l jump).run P W2=.ok v w'/\Ans W M2 pt2 ow2 S2 (.bool true) [(qc,.gst (GhostG is pt og bs' sl tm D l rc'))] (.returned v) w':=by
   intro jump rc' hrc' hjl hend;obtain⟨M3,pt3,ow3,S3,hg3,hs3,_⟩:=hr3;have hkeep:∀b,b<W.heap.size->¬c1.mine b->b≠l->W2.heap[b]? =W.heap[b]? :=fun b hb hm hne=>by
    rw[hg3.keep b (by simpa[qY]using hb) hm];exact zx W _ hne
   have hL2:W2.heap[l]? =some (.loop {rc with state:=.busy}):=by
    rw[hg3.keep l (by simpa[qY]using hlW) fun h=>by have:=(hmine l h).1;omega];exact qZ hlW
   refine⟨_,_,run_endRound jump hL2,?_⟩;have hsz:W.heap.size<=W2.heap.size:=by have:=hg3.size;simpa[qY]using this
   obtain⟨Wf,hWf⟩:∃Wf,Wf=W2.putObj l (.loop rc'):=⟨_,rfl⟩;have hWf':W2.putObj l (.loop {({rc with state:=.busy}:Loop)with state:=if jump.isNone then .ready else .done,pending:=jump})=Wf:=by rw[hWf,hrc']
   rw[hWf'];have hfsz:Wf.heap.size=W2.heap.size:=by rw[hWf];simp[qY]
   have hfne:∀b,b≠l->Wf.heap[b]? =W2.heap[b]? :=fun b hb=>by rw[hWf];exact zx W2 _ hb
   have hfl:Wf.heap[l]? =some (.loop rc'):=by rw[hWf];exact qZ (zd hL2)
   have hV3:∀b o,zj W2 M3 b o->zj Wf M2 b o:=zr fun b o hm hb=>⟨fun h=>hm (hg3.m0 b h),by rw[hfne b fun e=>hm (hg3.m0 b (e▸hlM))];exact hb⟩
   have hVW:∀b o,zj W M2 b o->zj Wf M2 b o:=zr fun b o hm hb=>⟨hm,by
    have hne:b≠l:=fun e=>hm (e▸hlM)
    rw[hfne b hne,hkeep b (zd hb) (fun h=>hm (hcore.gm b (hmine b h).2)) hne];exact hb⟩
   obtain⟨ptN,owN,hgN,hless,hcel⟩:=hg3.weaken (zc9 hend);have hgz:∀i,hget (zz (zar is) (zk7 g bs')) (ur i)=tgB g (hget (zz is bs') i):=fun i=>by rw[zba,zfy]
   have hpb':∀i,i∈is->qbd is os (hget (zz is bs') i):=fun i hi=>zbm hpl' _ (wj hle2 hi)
   have hptf:∀i b,i∈is->ptN (ur i)=some b->pt i=some b:=fun i b hi hb=>by
    have:=hgN.farp (ur i) b (by unfold ur;omega) hb;rw[<-ud (pt:=pt) hi];exact this
   have hptg:∀i∈is,∀b,pt i=some b->ptN (ur i)=some b:=fun i hi b hb=>by
    have:∃b',ptN (ur i)=some b':=by
     rcases hpb' i hi with ⟨m,e,he⟩|⟨kk,vk,m,e⟩
     .obtain⟨b',_,_,h1,_⟩:=hgN.cel (ur i) (qbo g m) (by rw[hgz,e];rfl);exact⟨b',h1⟩
     .have h0:=hgN.blk (ur i);rw[hgz,e]at h0;obtain⟨b',_,_,h1,_⟩:=h0;exact⟨b',h1⟩
    obtain⟨b',h1⟩:=this;have:=hptf i b' hi h1;rw[hb]at this;cases this;exact h1
   have hbk':∀i∈is,qft Wf (zj Wf M2) pt og i (hget (zz is bs') i):=fun i hi=>by
    rcases hpb' i hi with ⟨m,e,he⟩|⟨kk,vk,m,e⟩
    .rw[e];have e':hget (zz (zar is) (zk7 g bs')) (ur i)=.cells (qbo g m):=by rw[hgz,e];rfl
     obtain⟨b,cs,Ty,h1,h2⟩:=hgN.cel _ _ e';have hb:=hptf i b hi h1;refine⟨b,cs,Ty,hb,by rw[hfne b (by have:=hlt i hi b hb;omega)];exact h2,?_⟩;obtain⟨m0,h3,h4,h5⟩:=hcel _ _ e';rw[h5]at h1;have h6:=(hs3 pt3 ow3 (Agr.refl _ _ _)).2 _ m0 b cs Ty h3 h1 h2;exact(zye hog hslc hptg he (Rs.le _ _ _ h4 (hless _) h6)).imp _ _ (Env.le_view hV3 _)
    .rw[e];have h0:=hgN.blk (ur i);rw[hgz,e]at h0;obtain⟨b,es,clk,h1,h2,h3⟩:=h0;have hb:=hptf i b hi h1;exact⟨b,es,clk,hb,by rw[hfne b (by have:=hlt i hi b hb;omega)];exact h2,h3.mono hV3⟩
   refine⟨_,M2,pt2,ow2,S2,rfl,?_,?_,?_,?_⟩
   .exact {
     fresh:=fun b hb=>by rw[hfsz];exact qJ (hcore.fresh b hb) hsz
     mt:=fun i b hb=>absurd hb (hb2 i b)
     inj:=fun i j b hb=>absurd hb (hb2 i b)
     gm:=hcore.gm
     gd:=fun i b hb=>absurd hb (hb2 i b)
     dpt:=fun i b hb=>by rw[hpt2]at hb;cases hb
     dow:=fun i b hb=>by rw[how2]at hb;cases hb
     blk:=fun i=>by
      rw[wy];split
      .rename_i e;subst e;have hD':Wf.heap[D]? =some (.deferred (some [])):=by
        rw[hfne D O,hkeep D hDW (fun h=>by have:=(hmine D h).1;omega) O];exact hJ.hd
       exact⟨rfl,GhostG.stab _ _ _ _ _ _ _ _ _,⟨hJ.sd,hJ.sl_,hD',hfl,hJ.si,hbk',hJ.rs.imp _ _ (Env.le_view hVW _)⟩⟩
      .trivial}
   .intro i m b cs Ty hm;rw[wy]at hm;split at hm<;>cases hm
   .simp only[R];rw[hjl]
   .exact {
     os:=by rw[hWf];exact hg3.os
     tape:=by rw[hWf];exact hg3.tape
     output:=by rw[hWf];exact hg3.output
     size:=by rw[hfsz];exact hsz
     same:=fun b hb _ hS=>by
      have hne:b≠l:=fun e=>hS (e▸hJ.sl_)
      rw[hfne b hne];exact hkeep b hb (fun h=>hS (hmine b h).2) hne
     mm:=fun _ h=>h,mn:=fun _ h=>.inl h,sn:=fun _ h=>.inl h,lept:=fun _ _ h=>.inl h,leow:=fun _ _ h=>.inl h}
  cases e with
  |normal=>exact fin none rc (by rw[hrc];rfl) rfl hk2
  | _=>exact hk2.elim
 | _=>exact hk1.elim
def rgOk(T:Tab)(hp:Hp)(g:Nat)(is os ic:List Nat)(caps:List AV)(ib:List Blk)(X:List Nat):Bool:=
 q5 (zxq T g) 0&&zz3 is&&xw is&&xr is ic&&jk (zw hp ic)&&xo ic ib&&jk ib&&zgt (zas (zz ic ib)) ic&&zgt (qf caps) ic&&xr [qc] ic&&ltB ic&&xw ic&&zwp (zw hp os)&&xr X (zar is)
set_option maxHeartbeats 2000000 in
open Classical in
theorem zjq{asg body:Code}(ihA:ut P T asg)(ihB:ut P T body){f:Operand}{ps:Array Tmp}{Q:Exit->Act->World->Prop}(h:Rel c G a w){g:Nat}{caps:List AV}(hf:zg G.sl f=.fn g caps)
 {is os ic:List Nat} {X Y:Type} {hb:X->List Blk} {args:Y->List AV} {next:X->Y->X} {x₀ xE:X} {r:AV} {ib:List Blk} (hg0:zw G.hp is=hb x₀)
 (hok:rgOk T G.hp g is os ic caps ib (za T asg++za T body)=true) (hpl:∀x,zvn is os (hb x)=true/\xo is (hb x)=true) (hargs:∀y,znj (qf (args y))=true)
 (ok:X->Prop) (hcall:∀(l:Nat)(J:X->GJ),(∀x y,ok x->zuk P l [(qc,.gst (J x))] (args y) (.bool true) [(qc,.gst (J (next x y)))])->
   zcm P g ((qc,.gst (J x₀))::zz ic (zw G.hp ic)) (.cb l::caps) r ((qc,.gst (J xE))::zz ic ib))
 (hbody:∀(g:Nat->Value)x y,ok x->zb6 ps.toList (args y) (zb5 is G.sl) fun sl=>vl T (CN P) false asg ⟨sl,zbg (qa (za T asg++za T body)) (zz (zar is) (zk7 g (hb x)))⟩ fun ex U=>match ex with
   |.normal =>vl T (CN P) false body U fun ex U=>match ex with
     |.normal =>zi5 is (zk7 g (hb (next x y))) U
     | _=>False
   | _=>False)
 (hQ:∀a w,Rel c ⟨G.sl,zu (zu G.hp is (hb xE)) ic ib⟩ a w->Q .normal a w):(Code.rangeFunc f ps asg body).wpIn qW 0 P Q a w:=by
 simp only[rgOk,q1]at hok;obtain⟨⟨⟨⟨⟨⟨⟨⟨⟨⟨⟨⟨⟨hnb,hlow⟩,hnod⟩,hdis⟩,hnfc⟩,hlib⟩,hnfb⟩,hsub1⟩,hsub0⟩,hcb⟩,hltc⟩,hicnd⟩,hbufs⟩,hX⟩:=hok;have hlow:=zer hlow;have hnod:=kj hnod;have hicnd:=kj hicnd;have hdis:∀i∈is,i∉ic:=fun i hi hj=>(qo _ _).1 hdis i hi hj
 have hcb:qc∉ic:=(qo _ _).1 hcb qc OC;have hltc:=za3 hltc;have hsub1:=vz _ _ hsub1;have hcapsI:∀i∈qf caps,i∈ic:=vz _ _ hsub0;have hbufs:=ztt hbufs;obtain⟨M,pt,ow,S,hg,hs,hd⟩:=h;obtain⟨hsl,hct⟩:=hs pt ow (Agr.refl _ _ _)
 let og:Nat->Option Value:=fun k=>if k∈os then ow k else none
 let gv:Nat->Value:=fun k=>(ow k).getD (.slice none 0 0)
 have hogv:∀k∈os,og k=some (gv k):=fun k hk=>by
  obtain⟨e,t,xs,hh⟩:=hbufs k hk;obtain⟨x,hx,_⟩:=hg.buf k _ _ _ hh;simp only[og,gv,Z4 hk,hx,Option.getD_some]
 have hslc:∀k∈os,∃a n c,gv k=.slice a n c:=fun k hk=>by
  obtain⟨e,t,xs,hh⟩:=hbufs k hk;obtain⟨x,hx,hx2⟩:=hg.buf k _ _ _ hh;simp only[gv,hx,Option.getD_some];exact hx2.slice
 have hogo:∀k x,og k=some x->ow k=some x/\k∈os:=fun k x hk=>by
  by_cases e:k∈os
  .simp only[og,Z4 e]at hk;exact⟨hk,e⟩
  .simp only[og,Z5 e]at hk;cases hk
 have hfv:=zc hsl f;rw[hf]at hfv;simp only[R]at hfv;obtain⟨vcaps,hfv,hcaps⟩:=hfv;have hpb0:∀i∈is,qbd is os (hget G.hp i):=fun i hi=>by
  have h1:=zbm (hpl x₀).1 _ (wj (hpl x₀).2 hi);rw[<-hg0,zn G.hp hi]at h1;exact h1
 have hpbE:∀i∈is,qbd is os (hget (zz is (hb xE)) i):=fun i hi=>zbm (hpl xE).1 _ (wj (hpl xE).2 hi)
 refine wpIn_rangeFunc fun fn _=>?_
 obtain⟨D,hD⟩:∃D,D=w.heap.size:=⟨_,rfl⟩;obtain⟨l,hl⟩:∃l,l=D+1:=⟨_,rfl⟩;obtain⟨rc,hrc⟩:∃rc:Loop,rc= {state:=.ready,pending:=none,fn:=fn,tmps:=a.tmps,params:=ps,assign:=asg,body:=body,defers:=D}:=⟨_,rfl⟩;obtain⟨w1,hw1⟩:∃w1,w1=(w.alloc (.deferred (some []))).alloc (.loop rc):=⟨_,rfl⟩;have he1:Ext w w1:=by
  have h1:=Ext.alloc w (.deferred (some []));have h2:=Ext.alloc (w.alloc (.deferred (some []))) (.loop rc);rw[hw1];exact⟨h2.os.trans h1.os,h2.tape.trans h1.tape,h2.output.trans h1.output,qB h1.size h2.size,fun b hb'=>(h2.block b OE).trans (h1.block b hb')⟩
 have hw1sz:w1.heap.size=w.heap.size+2:=by rw[hw1];simp
 have hD1:w1.heap[D]? =some (.deferred (some [])):=by
  rw[hw1,hD,(Ext.alloc (w.alloc (.deferred (some []))) (.loop rc)).block _ OC];exact w6 _ _
 have hl1:w1.heap[l]? =some (.loop rc):=by
  rw[hw1,hl,hD];have:=w6 (w.alloc (.deferred (some []))) (.loop rc);rwa [wA]at this
 have hMlt:∀b,M b->b<w.heap.size:=hg.fresh;have hbllt:∀i b,bl pt ow i=some b->b<w.heap.size:=fun i b hb'=>hMlt b (hg.mt i b hb')
 have hptlt:∀i b,pt i=some b->b<w.heap.size:=fun i b hb'=>hbllt i b (by simp[bl,hb'])
 let M1:Nat->Prop:=fun b=>M b\/b=D\/b=l
 let S1:Nat->Prop:=fun b=>b=D\/b=l\/∃i,i∈is/\pt i=some b
 let ptR:Nat->Option Nat:=fun i=>if i∈ic then pt i else none
 let owR:Nat->Option Value:=fun i=>if i∈ic then ow i else none
 have hptR:∀i b,ptR i=some b->i∈ic/\pt i=some b:=fun i b hb'=>by
  by_cases hi:i∈ic
  .exact⟨hi,by simpa only[ptR,hi,if_true]using hb'⟩
  .simp only[ptR,hi,if_false]at hb';cases hb'
 have howR:∀i b,owR i=some b->i∈ic/\ow i=some b:=fun i b hb'=>by
  by_cases hi:i∈ic
  .exact⟨hi,by simpa only[owR,hi,if_true]using hb'⟩
  .simp only[owR,hi,if_false]at hb';cases hb'
 have hblR:∀i b,bl ptR owR i=some b->i∈ic/\bl pt ow i=some b:=fun i b hb'=>by
  by_cases hi:i∈ic
  .exact⟨hi,by simpa only[bl,ptR,owR,hi,if_true]using hb'⟩
  .simp only[bl,ptR,owR,hi,if_false]at hb';cases hb'
 have hV1:∀b o,zj w M b o->zj w1 M1 b o:=zr fun b o hm hb'=>⟨fun h'=>by
  have:=zd hb';rcases h' with h'|h'|h'
  .exact hm h'
  .omega
  .omega,he1.get hb'⟩
 have hleR:∀ids:List Nat,Env.le ⟨zj w M,pt,ow⟩ ⟨zj w1 M1,ptR,owR⟩ ids:=fun ids=>⟨hV1,fun i _=>⟨fun b hb'=>(hptR i b hb').2,fun b hb'=>(howR i b hb').2⟩⟩
 let J:X->GJ:=fun x=>GhostG is pt og (hb x) G.sl a.tmps D l rc
 have hgetZ:∀(x:Blk)(bs:List Blk)i,hget ((qc,x)::zz ic bs) i=if qc=i then x else hget (zz ic bs) i:=fun x bs i=>ze _ _ _ _
 have hJ0:J x₀ S1 (zj w1 M1) w1:=by
  refine⟨.inl rfl,.inr (.inl rfl),hD1,hl1,fun i hi b hb'=>.inr (.inr ⟨i,hi,hb'⟩),fun i hi=>?_,?_⟩
  .rw[<-hg0,zn G.hp hi];rcases hpb0 i hi with ⟨m,e,hem⟩|⟨kk,vk,m,e⟩
   .rw[e];obtain⟨b,cs,Ty,h1,h2⟩:=hg.cel i m e;exact⟨b,cs,Ty,h1,he1.get h2,Rs.imp (ρ:=⟨zj w M,pt,ow⟩) m _ ⟨hV1,fun k hk=>⟨fun _ h=>h,fun x hx=>(hogo k x hx).1⟩⟩ (hct i m b cs Ty e h1 h2)⟩
   .rw[e];obtain⟨b,es,clk,h1,h2,h3⟩:=hg.mpo i kk vk m e;exact⟨b,es,clk,h1,he1.get h2,h3.mono hV1⟩
  .exact(Rs.mvl (pt':=ptB is pt) (ow':=fun _=>none) (fun i hi=>ud hi) G.sl _ hsl).imp _ _ (Env.le_view hV1 _)
 have hcore1:Core M1 ptR owR S1 ((qc,.gst (J x₀))::zz ic (zw G.hp ic)) w1:= {
  fresh:=fun b hb'=>by
   rcases hb' with h'|h'|h'
   .have:=hMlt b h';omega
   .omega
   .omega
  mt:=fun i b hb'=>.inl (hg.mt i b (hblR i b hb').2)
  inj:=fun i j b hi hj=>hg.inj i j b (hblR i b hi).2 (hblR j b hj).2
  gm:=fun b hb'=>by
   rcases hb' with h'|h'|⟨i,hi,h'⟩
   .exact .inr (.inl h')
   .exact .inr (.inr h')
   .exact .inl (hg.mt i b (by simp[bl,h']))
  gd:=fun i b hb' hS=>by
   obtain⟨hi,hb''⟩:=hblR i b hb';have:=hbllt i b hb'';rcases hS with h'|h'|⟨j,hj,h'⟩
   .omega
   .omega
   .have:=hg.inj i j b hb'' (by simp[bl,h']);exact hdis j hj (this▸hi)
  dpt:=fun i b hb'=>by
   obtain⟨hi,hb''⟩:=hptR i b hb';rw[hgetZ,Z5 (show ¬qc=i from fun e=>hcb (e▸hi)),zn G.hp hi];exact hg.dpt i b hb''
  dow:=fun i b hb'=>by
   obtain⟨hi,hb''⟩:=howR i b hb';rw[hgetZ,Z5 (show ¬qc=i from fun e=>hcb (e▸hi)),zn G.hp hi];exact hg.dow i b hb''
  blk:=fun i=>by
   rw[hgetZ];by_cases e:qc=i
   .rw[Z4 e];exact⟨e.symm,GhostG.stab _ _ _ _ _ _ _ _ _,hJ0⟩
   .rw[Z5 e];by_cases hi:i∈ic
    .rw[zn G.hp hi];have h1:=(hg.blk i).mono (w':=w1) (V':=zj w1 M1) (pt':=pt) (ow':=ow) rfl rfl hV1 (fun _=>hg.ptow) (fun _ _ _ hh=>he1.get hh) (fun _ _ _ hh=>he1.get hh);have h2:=h1.ren (pt':=ptR) (ow':=owR) (S':=S1) (i:=i) id (by simp only[ptR,Z4 hi]) (by simp only[owR,Z4 hi]) (fun e'=>absurd e'.symm e)
     rwa [Blk.mapI_id']at h2
    .rw[qg hi];trivial}
 have hcall':=hcall l J (fun x y hx=>zrs (P:=P) (T:=T) ihA ihB (is:=is) (pt:=pt) (bs:=hb x) (bs':=hb (next x y)) (sl:=G.sl) (tm:=a.tmps) (D:=D) (l:=l) (fn:=fn) (ps:=ps) (A:=args y) hogv hslc
  (fun i _ j _ b h1 h2=>hg.inj i j b (by simp[bl,h1]) (by simp[bl,h2])) (fun i _ b h1=>by rw[hD];exact hptlt i b h1) hl (hpl x).1 (hpl x).2 (hpl (next x y)).1 (hpl (next x y)).2 ((qo _ _).1 hX) (hargs y) rc hrc (hbody gv x y hx))
 obtain⟨⟨fg,hfg,hbg,hng⟩,hokc⟩:=hcall';have hcallee:=hokc w1 M1 ptR owR S1 (.func (.yield l) #[] #[]::vcaps.toList) hcore1 (fun i m b cs Ty hm hb' hcs=>by
  obtain⟨hi,hb''⟩:=hptR i b hb';rw[hgetZ,Z5 (show ¬qc=i from fun e=>hcb (e▸hi)),zn G.hp hi]at hm;obtain⟨b0,cs0,Ty0,h1,h2⟩:=hg.cel i m hm;rw[hb'']at h1;cases h1
  have:=he1.get h2;rw[hcs]at this;cases this
  exact(hct i m b cs Ty hm hb'' h2).imp _ _ (hleR _)) (by simp only[Rs,R];exact⟨trivial,hcaps.imp _ _ (hleR _)⟩)
 refine⟨l,[{target:=.collected D,args:= #[]}],w1,{target:=.fn (.func g) vcaps,args:= #[.func (.yield l) #[] #[]]},w1,g,#[.func (.yield l) #[] #[]]++vcaps,w1,?_,?_,fun _ _=>trivial,?_,(fun h'=>by cases h'),?_⟩
 .have:=run_enterLoop_outer (P:=P) (w:=w) fn a.tmps ps asg body;rw[hw1,hrc,hl,hD];exact this
 .simp only[resolve,rangeCall,hfv];simp[Deferred.ofValue,Act.eval]
 .have hprog:(program).run P w1=.ok P w1:=rfl;simp only[invoke,callFunc,w5,hprog,qX,hfg,hng,hbg,q2,if_false,w7]
 have evs:(Value.func (.yield l) #[] #[]::vcaps.toList).toArray = #[.func (.yield l) #[] #[]]++vcaps:=by apply qQ;simp
 rw[evs]at hcallee;refine(callsIn_wide.2 hcallee).mono fun e w3 hans=>?_
 obtain⟨v,M3,pt3,ow3,S3,rfl,hcore3,hconts3,hr3,hleft⟩:=hans;have hJE:=hcore3.blk qc;rw[hgetZ,Z4 rfl]at hJE;obtain⟨_,_,hJ⟩:=hJE;have hst:rc.state≠ .busy :=by rw[hrc];simp
 refine⟨_,_,run_endLoop hJ.hl hst,?_⟩;obtain⟨w4,hw4⟩:∃w4,w4=w3.putObj l (.loop {rc with state:=.exhausted}):=⟨_,rfl⟩;rw[<-hw4];have hw4ne:∀b,b≠l->w4.heap[b]? =w3.heap[b]? :=fun b hb'=>by rw[hw4];exact zx w3 _ hb'
 have hw4sz:w4.heap.size=w3.heap.size:=by rw[hw4];simp[qY]
 have hptI:∀i b,i∈ic->pt3 i=some b->pt i=some b:=fun i b hi hb'=>by
  rcases hleft.lept i b hb' with h1|⟨_,h1⟩
  .exact(hptR i b h1).2
  .have:=hltc i hi;omega
 have howI:∀i b,i∈ic->ow3 i=some b->ow i=some b:=fun i b hi hb'=>by
  rcases hleft.leow i b hb' with h1|⟨_,h1⟩
  .exact(howR i b h1).2
  .have:=hltc i hi;omega
 have hsame:∀b,b<w.heap.size->(∀i,i∈ic->bl pt ow i≠some b)->(∀i,i∈is->pt i≠some b)->w4.heap[b]? =w.heap[b]? :=fun b hb' h1 h2=>by
  rw[hw4ne b O,hleft.same b O (fun i hi=>h1 i (hblR i b hi).1 (hblR i b hi).2) (fun hS=>by
   rcases hS with h'|h'|⟨i,hi,h'⟩
   .omega
   .omega
   .exact h2 i hi h'),he1.block b hb']
 let M4:Nat->Prop:=fun b=>M3 b/\b≠D
 have hMM:∀b,M b->M4 b:=fun b hb'=>⟨hleft.mm b (.inl hb'),by have:=hMlt b hb';omega⟩
 have hlM3:M3 l:=hcore3.gm l hJ.sl_;have hV4:∀b o,zj w M b o->zj w4 M4 b o:=zr fun b o hm hb'=>by
  have hlt:=zd hb';refine⟨fun h'=>?_,?_⟩
  .rcases hleft.mn b h'.1 with h1|h1
   .rcases h1 with h1|h1|h1
    .exact hm h1
    .omega
    .omega
   .omega
  .rw[hsame b hlt (fun i _ h1=>hm (hg.mt i b h1)) fun i _ h1=>hm (hg.mt i b (by simp[bl,h1]))];exact hb'
 have hV34:∀b o,zj w3 M3 b o->zj w4 M4 b o:=zr fun b o hm hb'=>⟨fun h'=>hm h'.1,by rw[hw4ne b fun e=>hm (e▸hlM3)];exact hb'⟩
 let pt4:Nat->Option Nat:=fun i=>if i∈ic then pt3 i else pt i
 let ow4:Nat->Option Value:=fun i=>if i∈ic then ow3 i else ow i
 have h4c:∀i,i∈ic->pt4 i=pt3 i/\ow4 i=ow3 i:=fun i hi=>by simp only[pt4,ow4,Z4 hi];exact⟨trivial,trivial⟩
 have h4n:∀i,i∉ic->pt4 i=pt i/\ow4 i=ow i:=fun i hi=>by simp only[pt4,ow4,Z5 hi];exact⟨trivial,trivial⟩
 have h4p:∀i b,pt4 i=some b->pt i=some b:=fun i b hb'=>by
  by_cases hi:i∈ic
  .rw[(h4c i hi).1]at hb';exact hptI i b hi hb'
  .rw[(h4n i hi).1]at hb';exact hb'
 have h4w:∀i b,ow4 i=some b->ow i=some b:=fun i b hb'=>by
  by_cases hi:i∈ic
  .rw[(h4c i hi).2]at hb';exact howI i b hi hb'
  .rw[(h4n i hi).2]at hb';exact hb'
 have hblc:∀i b,bl pt4 ow4 i=some b->bl pt ow i=some b:=fun i b hb'=>by
  unfold bl at hb'⊢
  cases hq:pt4 i with
  |some z=>rw[hq]at hb';rw[h4p i z hq];exact hb'
  |none=>
   rw[hq]at hb'
   cases hq2:ow4 i with
   |none=>rw[hq2]at hb';cases hb'
   |some z=>
    rw[hq2]at hb';rw[hg.ptow (h4w i z hq2),h4w i z hq2];exact hb'
 have hkeyis:∀i,i∈is->wp G.hp i:=fun i hi=>zf (by
  rcases hpb0 i hi with ⟨m,e,_⟩|⟨_,_,_,e⟩<;>rw[e]<;>simp)
 let hq:Hp:=zu (zu G.hp is (hb xE)) ic ib
 have hkey2:∀i,wp (zu G.hp is (hb xE)) i<->wp G.hp i:=fun i=>by
  have:∀(js:List Nat)(bs:List Blk)(h:Hp),wp (zu h js bs) i<->wp h i:=by
   intro js
   induction js with
   |nil=>intro bs h;simp[zu]
   |cons j js ih=>
    intro bs h
    cases bs with
    |nil=>simp[zu]
    |cons b bs=>simp only[zu];rw[ih,yb]
  exact this _ _ _
 have hqc:∀i,i∈ic->wp G.hp i->hget hq i=hget (zz ic ib) i:=fun i hi hk=>by
  show hget (zu _ ic ib) i=_;rw[qj hicnd hlib ((hkey2 i).2 hk),Z4 hi]
 have hqd:∀i,¬wp G.hp i->hget hq i=.dead :=fun i hk=>by
  show hget (zu _ ic ib) i=_;rw[wc fun h'=>hk ((hkey2 i).1 h')]
 have hqs:∀i,i∈is->hget hq i=hget (zz is (hb xE)) i:=fun i hi=>by
  show hget (zu _ ic ib) i=_;rw[qj hicnd hlib ((hkey2 i).2 (hkeyis i hi)),Z5 (hdis i hi),qj hnod (hpl xE).2 (hkeyis i hi),Z4 hi]
 have hqo:∀i,i∉ic->i∉is->hget hq i=hget G.hp i:=fun i h1 h2=>by
  by_cases hk:wp G.hp i
  .show hget (zu _ ic ib) i=_;rw[qj hicnd hlib ((hkey2 i).2 hk),Z5 h1,qj hnod (hpl xE).2 hk,Z5 h2]
  .rw[hqd i hk];cases h':hget G.hp i<;>first|rfl|exact absurd (zf (by rw[h'];simp)) hk
 have hkeybl:∀i b,bl pt ow i=some b->wp G.hp i:=fun i b hb'=>by
  refine zf fun e=>?_
  unfold bl at hb';rw[hg.ptn (i:=i) (by rw[e];rfl),hg.own (i:=i) (by rw[e];rfl)]at hb';cases hb'
 have hH1c:∀i,i∈ic->hget ((qc,.gst (J xE))::zz ic ib) i=hget (zz ic ib) i:=fun i hi=>by rw[hgetZ,Z5 (show ¬qc=i from fun e=>hcb (e▸hi))]
 have hfinal:Rel c ⟨G.sl,hq⟩ {a with defers:= [{target:=.collected D,args:= #[]}]++a.defers} w4:=by
  refine⟨M4,pt4,ow4,S,?_,?_,?_⟩
  .exact {
    os:=by rw[hw4];exact hleft.os.trans (he1.os.trans hg.os)
    tape:=by rw[hw4];exact hleft.tape.trans (he1.tape.trans hg.tape)
    output:=by rw[hw4];exact hleft.output.trans (he1.output.trans hg.output)
    size:=by have h1:=hg.size;have h2:=he1.size;have h3:=hleft.size;omega
    keep:=fun b hb' hm=>by
     have:=hg.size;rw[hsame b O (fun i _ h1=>by
      rcases hg.loc i b h1 with h2|h2
      .omega
      .exact hm h2.1) (fun i _ h1=>by
      rcases hg.loc i b (by simp[bl,h1])with h2|h2
      .omega
      .exact hm h2.1)]
     exact hg.keep b hb' hm
    fresh:=fun b hb'=>by rw[hw4sz];exact hcore3.fresh b hb'.1
    m0:=fun b hb'=>hMM b (hg.m0 b hb')
    m1:=hg.m1
    mt:=fun i b hb'=>hMM b (hg.mt i b (hblc i b hb'))
    gm:=fun b hb'=>hMM b (hg.gm b hb')
    gl:=hg.gl
    gd:=fun i b hb'=>hg.gd i b (hblc i b hb')
    loc:=fun i b hb'=>hg.loc i b (hblc i b hb')
    farp:=fun i b hi hb'=>hg.farp i b hi (h4p i b hb')
    farw:=fun i b hi hb'=>hg.farw i b hi (h4w i b hb')
    inj:=fun i j b hi hj=>hg.inj i j b (hblc i b hi) (hblc j b hj)
    dpt:=fun i b hb'=>by
     by_cases hi:i∈ic
     .rw[hqc i hi (hkeybl i b (by simp[bl,h4p i b hb']))];rw[(h4c i hi).1]at hb';rw[<-hH1c i hi];exact hcore3.dpt i b hb'
     .by_cases hi2:i∈is
      .rw[hqs i hi2];exact(hpbE i hi2).isPt
      .rw[hqo i hi hi2];exact hg.dpt i b (h4p i b hb')
    dow:=fun i b hb'=>by
     have h1:=hg.dow i b (h4w i b hb');by_cases hi:i∈ic
     .rw[hqc i hi (zf fun e=>by rw[e]at h1;cases h1)];rw[(h4c i hi).2]at hb';rw[<-hH1c i hi];exact hcore3.dow i b hb'
     .by_cases hi2:i∈is
      .have:=zce (hpb0 i hi2).isPt;rw[h1]at this;cases this
      .rw[hqo i hi hi2];exact h1
    blk:=fun i=>by
     by_cases hi:i∈ic
     .by_cases hk:wp G.hp i
      .rw[hqc i hi hk];have h1:=hcore3.blk i;rw[hH1c i hi]at h1;have h2:=h1.mono (w':=w4) (V':=zj w4 M4) (pt':=pt3) (ow':=ow3) rfl rfl hV34 (fun _=>hcore3.ptow) (fun b o hb' hh=>by rw[hw4ne b fun e=>hcore3.gd i b hb' (e▸hJ.sl_)];exact hh);have hne:i≠qc:=fun e=>hcb (e▸hi)
       cases e2:hget (zz ic ib) i with
       |gst J'=>rw[e2]at h1;exact absurd h1.1 hne
       |free=>trivial
       |dead=>trivial
       |cells m=>
        rw[e2]at h1;obtain⟨b,cs,Ty,h3,h4⟩:=h1;exact⟨b,cs,Ty,by rw[(h4c i hi).1];exact h3,by rw[hw4ne b fun e=>hcore3.gd i b (by simp[bl,h3]) (e▸hJ.sl_)];exact h4⟩
       |buf et k xs=>
        rw[e2]at h1;obtain⟨hd',h3,h4⟩:=h1;exact⟨hd',by rw[(h4c i hi).2];exact h3,h4.mono hV34 fun b cap cs hh hcs=>by rw[hw4ne b fun e=>hcore3.gd i b (by simp[bl,hcore3.ptow h3,h3,hh]) (e▸hJ.sl_)];exact hcs⟩
       |map kk vk m=>
        rw[e2]at h1;obtain⟨b,es,clk,h3,h4,h5⟩:=h1;exact⟨b,es,clk,by rw[(h4c i hi).1];exact h3,by rw[hw4ne b fun e=>hcore3.gd i b (by simp[bl,h3]) (e▸hJ.sl_)];exact h4,h5.mono hV34⟩
      .rw[hqd i hk];trivial
     .by_cases hi2:i∈is
      .rw[hqs i hi2];have hbk:=hJ.bk i hi2;rcases hpbE i hi2 with ⟨m,e,_⟩|⟨kk,vk,m,e⟩
       .rw[e]at hbk⊢;obtain⟨b,cs,Ty,h1,h2,_⟩:=hbk;exact⟨b,cs,Ty,by rw[(h4n i hi).1];exact h1,by rw[hw4ne b (by have:=hptlt i b h1;omega)];exact h2⟩
       .rw[e]at hbk⊢;obtain⟨b,es,clk,h1,h2,h3⟩:=hbk;exact⟨b,es,clk,by rw[(h4n i hi).1];exact h1,by rw[hw4ne b (by have:=hptlt i b h1;omega)];exact h2,h3.mono hV34⟩
      .rw[hqo i hi hi2];refine(hg.blk i).mono (h4n i hi).1 (h4n i hi).2 hV4 (fun _=>hg.ptow) (fun b o hb' hh=>?_) fun b o hS hh=>?_
       .rw[hsame b (zd hh) (fun j hj h1=>hi (hg.inj i j b hb' h1▸hj)) fun j hj h1=>hi2 (hg.inj i j b hb' (by simp[bl,h1])▸hj)];exact hh
       .rw[hsame b (zd hh) (fun j _ h1=>hg.gd j b h1 hS) fun j _ h1=>hg.gd j b (by simp[bl,h1]) hS];exact hh}
  .intro ptQ owQ hag;have hnf:∀i,(hget G.hp i).isFree =false->(hget hq i).isFree =false:=fun i hi0=>by
    by_cases hi:i∈ic
    .by_cases hk:wp G.hp i
     .rw[hqc i hi hk];exact jb hnfb
     .rw[hqd i hk];rfl
    .by_cases hi2:i∈is
     .rw[hqs i hi2];exact jm (hpbE i hi2).isPt
     .rw[hqo i hi hi2];exact hi0
   have hnfc':∀i,i∈ic->(hget hq i).isFree =false:=fun i hi=>by
    by_cases hk:wp G.hp i
    .rw[hqc i hi hk];exact jb hnfb
    .rw[hqd i hk];rfl
   let pt5:Nat->Option Nat:=fun i=>if(hget G.hp i).isFree =true then ptQ i else pt i
   let ow5:Nat->Option Value:=fun i=>if(hget G.hp i).isFree =true then owQ i else ow i
   have hag5:Agr G.hp pt pt5 ow ow5:=fun i hi=>by simp[pt5,ow5,hi]
   have hp5:∀i b,ptQ i=some b->pt5 i=some b:=fun i b hb'=>by
    by_cases hfr:(hget G.hp i).isFree =true
    .simpa[pt5,hfr]using hb'
    .have hfr':(hget G.hp i).isFree =false:=by simpa using hfr
     simp only[pt5,hfr',q2,if_false];rw[(hag i (hnf i hfr')).1]at hb';exact h4p i b hb'
   have ho5:∀i b,owQ i=some b->ow5 i=some b:=fun i b hb'=>by
    by_cases hfr:(hget G.hp i).isFree =true
    .simpa[ow5,hfr]using hb'
    .have hfr':(hget G.hp i).isFree =false:=by simpa using hfr
     simp only[ow5,hfr',q2,if_false];rw[(hag i (hnf i hfr')).2]at hb';exact h4w i b hb'
   have hle5:∀ids:List Nat,Env.le ⟨zj w M,pt5,ow5⟩ ⟨zj w4 M4,ptQ,owQ⟩ ids:=fun ids=>⟨hV4,fun i _=>⟨hp5 i,ho5 i⟩⟩
   obtain⟨h1,h2⟩:=hs pt5 ow5 hag5;refine⟨h1.imp _ _ (hle5 _),fun i m b cs Ty hm hb' hcs=>?_⟩;by_cases hi:i∈ic
   .have hbo:=h4p i b hb';rw[hqc i hi (hkeybl i b (by simp[bl,hbo]))]at hm;rw[(h4c i hi).1]at hb';have hne:b≠l:=by have:=hptlt i b hbo;omega
    rw[hw4ne b hne]at hcs;refine Rs.imp (ρ:=⟨zj w3 M3,pt3,ow3⟩) m _ ⟨hV34,fun j hj=>?_⟩ (hconts3 i m b cs Ty (by rw[hH1c i hi];exact hm) hb' hcs);have hjc:j∈ic:=hsub1 j (vf hm j hj);have hx:=hag j (hnfc' j hjc);exact⟨fun z hz=>by have:=hx.1.symm.trans hz;rw[(h4c j hjc).1]at this;exact this,fun z hz=>by have:=hx.2.symm.trans hz;rw[(h4c j hjc).2]at this;exact this⟩
   .by_cases hi2:i∈is
    .rw[hqs i hi2]at hm;rw[(h4n i hi).1]at hb';have hbk:=hJ.bk i hi2;rw[hm]at hbk;obtain⟨b',cs',Ty',h3,h4,h5⟩:=hbk;rw[hb']at h3;cases h3
     rw[hw4ne b (by have:=hptlt i b hb';omega),h4]at hcs;cases hcs
     have hokm:zur is os m=true:=by
      rcases hpbE i hi2 with ⟨m',e,he⟩|⟨_,_,_,e⟩
      .rw[hm]at e;cases e;exact he
      .rw[hm]at e;cases e
     refine Rs.imp (ρ:=⟨zj w3 M3,pt,og⟩) m _ ⟨hV34,fun k hk=>?_⟩ h5;have hfk:(hget hq k).isFree =false:=by
      by_cases hkc:k∈ic
      .exact hnfc' k hkc
      .rcases zlx hokm k hk with h|h
       .rw[hqs k h];exact jm (hpbE k h).isPt
       .obtain⟨_,_,_,hh⟩:=hbufs k h;exact hnf k (by rw[hh];rfl)
     have hx:=hag k hfk;refine⟨fun z hz=>h4p k z (hx.1.symm.trans hz),fun z hz=>?_⟩;have hz':=h4w k z (hx.2.symm.trans hz);rcases zlx hokm k hk with h|h
     .have h1:=hg.dow k z hz';have:=zce (hpb0 k h).isPt;rw[h1]at this;cases this
     .simp only[og,Z4 h];exact hz'
    .rw[hqo i hi hi2]at hm;rw[(h4n i hi).1]at hb';obtain⟨b',cs',Ty',h3,h4⟩:=hg.cel i m hm;rw[hb']at h3;cases h3
     have hb'':bl pt ow i=some b:=by simp[bl,hb']
     rw[hsame b (zd h4) (fun j hj h1=>hi (hg.inj i j b hb'' h1▸hj)) fun j hj h1=>hi2 (hg.inj i j b hb'' (by simp[bl,h1])▸hj),h4]at hcs;cases hcs
     exact(h2 i m b cs Ty hm hb' h4).imp _ _ (hle5 _)
  .obtain⟨Ds,h1,h2,h3⟩:=hd;refine⟨D::Ds,by simp[h1,za2],?_,fun d hd'=>?_⟩
   .rw[qP];exact⟨fun h'=>by have:=zd (h3 D h').2.2;omega,h2⟩
   .rcases q3.1 hd' with rfl|hd'
    .exact⟨by rw[hD];exact hg.size,fun h'=>h'.2 rfl,by rw[hw4ne d O];exact hJ.hd⟩
    .exact⟨(h3 d hd').1,hV4 _ _ (h3 d hd').2⟩
 have:rc.pending=none:=by simp[hrc]
 rw[this];exact hQ _ _ hfinal
end
theorem zpm{P:Program}{T:Tab}(hT:TabOK P T)(hmx:P.follows .mixedOrders =true){res:List ResultVar}{ex:List Nat}{rv:AV}{H':Hp}{x asg body rest:Code}{id:Nat}{f:Operand}{ps:Array Tmp}{sl:List AV}{hp:Hp}
 (σ1:St) (hfr:xr (zcg σ1.hp) σ1.ids=true)
 (h1:zgq sl fun sl=>zla hp fun hp=>kz T (CN P) x true ⟨sl,hp⟩ (fun G=>leS G σ1) (fun _ _=>False) (fun _=>False))
 {g:Nat} {caps:List AV} (hf:zg σ1.sl f=.fn g caps) {is os ic:List Nat} {X Y:Type} {hb:X->List Blk} {args:Y->List AV} {next:X->Y->X} {x₀ xE:X} {r:AV} {ib:List Blk} (hg0:zw σ1.hp is=hb x₀)
 (hok:rgOk T σ1.hp g is os ic caps ib (za T asg++za T body)=true) (hpl:∀x,zvn is os (hb x)=true/\xo is (hb x)=true) (hargs:∀y,znj (qf (args y))=true)
 (ok:X->Prop) (hcall:∀(l:Nat)(J:X->GJ),(∀x y,ok x->zuk P l [(qc,.gst (J x))] (args y) (.bool true) [(qc,.gst (J (next x y)))])->
   zcm P g ((qc,.gst (J x₀))::zz ic (zw σ1.hp ic)) (.cb l::caps) r ((qc,.gst (J xE))::zz ic ib))
 (hbody:∀(g:Nat->Value)x y,ok x->zb6 ps.toList (args y) (zb5 is σ1.sl) fun sl=>zla (zbg (qa (za T asg++za T body)) (zz (zar is) (zk7 g (hb x)))) fun hp=>
   kz T (CN P) asg false ⟨sl,hp⟩ (fun U=>kz T (CN P) body false U (fun U=>zi5 is (zk7 g (hb (next x y))) U) (fun _ _=>False) (fun _=>False)) (fun _ _=>False) (fun _=>False))
 (h2:SemOK P T res ex rv H' rest ⟨σ1.sl,zu (zu σ1.hp is (hb xE)) ic ib⟩):
 SemOK P T res ex rv H' (.seq (.seq x (.block id (.rangeFunc f ps asg body))) rest) ⟨sl,hp⟩:=by
 rw[qk,wl,ye,yd]at h1;refine⟨fun c0 a w Q hr hq=>wpIn_seq (wpIn_seq (zy hT hmx x true ⟨qW,.inl rfl⟩ c0 _ _ _ a w (fun _=>rfl) hr h1 fun ex1 σ' a' w' hr' hk'=>?_))⟩
 cases ex1 with
 |normal=>
  have hle:leS σ' σ1:=hk';have hr1:=hr'.weaken hle hfr;refine wpIn_block (zjq (T:=T) (fun F' c' σ'' K' Q' a'' w'' h' hk'' hQ'=>zy hT hmx asg false F' c' σ'' K' Q' a'' w'' (fun e=>by cases e) h' hk'' hQ')
   (fun F' c' σ'' K' Q' a'' w'' h' hk'' hQ'=>zy hT hmx body false F' c' σ'' K' Q' a'' w'' (fun e=>by cases e) h' hk'' hQ') hr1 hf hg0 hok hpl hargs ok hcall (fun gg xx y hxx=>?_) (fun a2 w2 hr2=>?_))
  .have hbz:=hbody gg xx y hxx;obtain⟨hl,hbz⟩:=yf _ _ _ _ hbz;refine zib _ _ _ _ hl ?_;rw[wl,ye,yd]at hbz;have e1:∀(B:St->Prop),K3 B (fun _ _=>False) (fun _=>False)=fun x G=>match x with
    |.normal =>B G
    | _=>False:=fun B=>by funext x G;cases x<;>rfl
   have e2:(fun U=>kz T (CN P) body false U (fun U=>zi5 is (zk7 gg (hb (next xx y))) U) (fun _ _=>False) (fun _=>False))=fun U=>vl T (CN P) false body U (K3 (fun U=>zi5 is (zk7 gg (hb (next xx y))) U) (fun _ _=>False) (fun _=>False)):=by
    funext U;rw[ye,yd]
   rw[e2,e1]at hbz;simp only[e1]at hbz;exact hbz
  .exact h2.sem c0 a2 w2 Q hr2 hq
 | _=>exact hk'.elim
structure LeftB(B:List Nat)(w w':World)(M M':Nat->Prop)(pt:Nat->Option Nat)(ow:Nat->Option Value)(pt':Nat->Option Nat)(ow':Nat->Option Value):Prop where
 os:w'.os=w.os
 tape:w'.tape=w.tape
 output:w'.output=w.output
 size:w.heap.size<=w'.heap.size
 same:∀b,b<w.heap.size->(∀i,bl pt ow i≠some b)->w'.heap[b]? =w.heap[b]?
 mm:∀b,M b->M' b
 mn:∀b,M' b->M b\/w.heap.size<=b
 lept:∀i b,pt' i=some b->pt i=some b
 leow:∀i h,ow' i=some h->ow i=some h\/(i∈B/\∀b,vbl h=some b->w.heap.size<=b\/∃j,bl pt ow j=some b)
def AnsB(B:List Nat)(w:World)(M:Nat->Prop)(pt:Nat->Option Nat)(ow:Nat->Option Value)(r:AV)(H':Hp)(e:Ending)(w':World):Prop:=
 ∃v M' pt' ow',e=.returned v/\Core M' pt' ow' (fun _=>False) H' w'/\zd7 H' w' M' pt' ow' pt' ow'/\R ⟨zj w' M',pt',ow'⟩ r v/\LeftB B w w' M M' pt ow pt' ow'
def zwz(P:Program)(f:Nat)(B:List Nat):CT:=fun H A r H'=>
 Ent P f/\∀(w:World)(M:Nat->Prop)(pt:Nat->Option Nat)(ow:Nat->Option Value)(vs:List Value),Core M pt ow (fun _=>False) H w->zd7 H w M pt ow pt ow->Rs ⟨zj w M,pt,ow⟩ A vs->
  Calls P f vs.toArray w (AnsB B w M pt ow r H')
theorem zwz.sw{P:Program}{g:Nat}{B:List Nat}{H H':Hp}{A:List AV}{r:AV}(l:List (Nat×Nat))(hl:zxc l=true)(h:zwz P g B H A r H'):
 zwz P g (B.map (sw l)) (zc5 (sw l) H) (yr (sw l) A) (r.mapI (sw l)) (zc5 (sw l) H'):=by
 have hff:∀i,Sx.sw l (Sx.sw l i)=i:=fun i=>zqz i hl
 have hhi:∀i,1999999<=i->Sx.sw l i=i:=fun i hi=>zu3 hl hi
 generalize Sx.sw l=f at hff hhi;refine⟨h.1,fun w M pt ow vs hcore hcont hargs=>?_⟩;refine(h.2 w M _ _ vs (hcore.unmap f hff hhi) (hcont.unmap f hff) ((Rs.mapI A vs fun i _=>⟨rfl,rfl⟩).1 hargs)).mono ?_;rintro e w' ⟨v,M',pt',ow',he,hc,hk,hr,hL⟩;refine⟨v,M',fun i=>pt' (f i),fun i=>ow' (f i),he,hc.domap f hff hhi,hk.domap f hff,?_,?_⟩
 .exact(R.mapI r v fun i _=>by simp only[hff];exact⟨trivial,trivial⟩).2 hr
 .refine⟨hL.os,hL.tape,hL.output,hL.size,fun b hb hn=>hL.same b hb (fun i=>hn (f i)),hL.mm,hL.mn,fun i b hb=>?_,fun i x hx=>?_⟩
  .have h1:=hL.lept (f i) b hb;simp only[hff]at h1;exact h1
  .rcases hL.leow (f i) x hx with h1|⟨h1,h2⟩
   .simp only[hff]at h1;exact .inl h1
   .refine .inr ⟨qU.2 ⟨f i,h1,hff i⟩,fun b hb=>(h2 b hb).imp id fun⟨j,hj⟩=>⟨f j,?_⟩⟩;simpa only[bl,hff]using hj
section
variable {P:Program} {c:Ctx} {G:St} {a:Act} {w:World}
open Classical in
theorem Rel.callB(h:Rel c G a w)(o:Oper){I B:List Nat}(hnd:I.Nodup)(hlt:∀i∈I,i<1999999)(hnear:(∀i∈I,i<=999999)\/∀i∈I,1000000<=i)(hB:∀i∈B,i<=999999\/(1500000<=i/\i<=1999998))(hIk:∀i∈I,wp G.hp i)
 (hno1:∀i∈B,i∉qf G.sl) (hno2:∀i∈B,∀k l,k∉I->hget G.hp k=.cells l->i∉qf l) (hw:wr o.op=true) (A:List AV) (vs:List Value)
 (hA:∀M pt ow,zdq G a w M pt ow->Rs ⟨zj w M,pt,ow⟩ A vs) (bs':List Blk) (r:AV)
 (hl1:xo I bs'=true) (hr1:∀i∈r.ids,i∈I) (hr2:∀i∈zas (zz I bs'),i∈I) (hnf1:jk bs'=true):
 ∃M pt ow,Core M pt ow (fun _=>False) (zz I (zw G.hp I)) w/\zd7 (zz I (zw G.hp I)) w M pt ow pt ow/\Rs ⟨zj w M,pt,ow⟩ A vs/\
  ∀v w',AnsB B w M pt ow r (zz I bs') (.returned v) w'->Rel c (nxt o I G r bs') (a.put o.dst v) w':=by
 obtain⟨M,pt,ow,S,hg,hs,hdf⟩:=h;obtain⟨hsl,hct⟩:=hs pt ow (Agr.refl _ _ _)
 let ptR:Nat->Option Nat:=fun i=>if i∈I then pt i else none
 let owR:Nat->Option Value:=fun i=>if i∈I then ow i else none
 have hblR:∀i b,bl ptR owR i=some b->i∈I/\bl pt ow i=some b:=fun i b hb=>by
  by_cases hi:i∈I
  .exact⟨hi,by simpa only[bl,ptR,owR,hi,if_true]using hb⟩
  .simp only[bl,ptR,owR,hi,if_false]at hb;cases hb
 have hptR:∀i b,ptR i=some b->i∈I/\pt i=some b:=fun i b hb=>by
  by_cases hi:i∈I
  .exact⟨hi,by simpa only[ptR,hi,if_true]using hb⟩
  .simp only[ptR,hi,if_false]at hb;cases hb
 have howR:∀i b,owR i=some b->i∈I/\ow i=some b:=fun i b hb=>by
  by_cases hi:i∈I
  .exact⟨hi,by simpa only[owR,hi,if_true]using hb⟩
  .simp only[owR,hi,if_false]at hb;cases hb
 have hleR:∀is:List Nat,Env.le ⟨zj w M,pt,ow⟩ ⟨zj w M,ptR,owR⟩ is:=fun is=>⟨fun _ _ h=>h,fun i _=>⟨fun b hb=>(hptR i b hb).2,fun b hb=>(howR i b hb).2⟩⟩
 have hgetH:∀i,i∈I->hget (zz I (zw G.hp I)) i=hget G.hp i:=fun i hi=>zn G.hp hi
 have hgetHn:∀i,i∉I->hget (zz I (zw G.hp I)) i=.dead :=fun i hi=>qg hi
 have hIc:∀i,i∈I->i≠qc:=fun i hi e=>by have:=hlt i hi;simp only[qc]at e;omega
 have hcore:Core M ptR owR (fun _=>False) (zz I (zw G.hp I)) w:= {
  fresh:=hg.fresh
  mt:=fun i b hb=>hg.mt i b (hblR i b hb).2
  inj:=fun i j b hi hj=>hg.inj i j b (hblR i b hi).2 (hblR j b hj).2
  gm:=fun b hb=>hb.elim
  gd:=fun i b hb hS=>hS
  dpt:=fun i b hb=>by rw[hgetH i (hptR i b hb).1];exact hg.dpt i b (hptR i b hb).2
  dow:=fun i b hb=>by rw[hgetH i (howR i b hb).1];exact hg.dow i b (howR i b hb).2
  blk:=fun i=>by
   by_cases hi:i∈I
   .rw[hgetH i hi];have:=(hg.blk i).ren (pt':=ptR) (ow':=owR) (S':=fun _=>False) (i:=i) id (by simp only[ptR,Z4 hi]) (by simp only[owR,Z4 hi]) (fun e=>absurd e (hIc i hi))
    rwa [Blk.mapI_id']at this
   .rw[hgetHn i hi];trivial}
 refine⟨M,ptR,owR,hcore,fun i l b cs Ty hl hb hcs=>?_,(hA M pt ow hs).imp _ _ (hleR _),?_⟩
 .obtain⟨hi,hb⟩:=hptR i b hb;rw[hgetH i hi]at hl;exact(hct i l b cs Ty hl hb hcs).imp _ _ (hleR _)
 rintro v w' ⟨v',M',pt',ow',hve,hcore',hconts',hr,hleft⟩;cases hve
 let H':=zz I bs'
 have hH3:∀i,i∉I->hget H' i=.dead :=fun i h1=>qg h1
 let ptN:Nat->Option Nat:=fun i=>if i∈I then pt' i else pt i
 let owN:Nat->Option Value:=fun i=>if i∈I then ow' i else ow i
 have hNI:∀i,i∈I->ptN i=pt' i/\owN i=ow' i:=fun i hi=>by simp only[ptN,owN,Z4 hi];exact⟨trivial,trivial⟩
 have hNo:∀i,i∉I->ptN i=pt i/\owN i=ow i:=fun i h2=>by simp only[ptN,owN,Z5 h2];exact⟨trivial,trivial⟩
 have hptI:∀i b,i∈I->pt' i=some b->pt i=some b:=fun i b hi hb=>(hptR i b (hleft.lept i b hb)).2
 have howI:∀i b,i∈I->i∉B->ow' i=some b->ow i=some b:=fun i b hi hn hb=>by
  rcases hleft.leow i b hb with h1|⟨h1,_⟩
  .exact(howR i b h1).2
  .exact absurd h1 hn
 have hblI:∀i b,i∈I->bl ptN owN i=some b->bl pt' ow' i=some b/\(w.heap.size<=b\/∃j,j∈I/\bl pt ow j=some b):=fun i b hi hb=>by
  have hb':bl pt' ow' i=some b:=by simpa only[bl,(hNI i hi).1,(hNI i hi).2]using hb
  refine⟨hb',?_⟩;unfold bl at hb'
  cases hq:pt' i with
  |some z=>rw[hq]at hb';cases hb';exact .inr ⟨i,hi,by simp[bl,hptI i b hi hq]⟩
  |none=>
   rw[hq]at hb'
   cases hq2:ow' i with
   |none=>rw[hq2]at hb';cases hb'
   |some z=>
    rw[hq2]at hb';rcases hleft.leow i z hq2 with h1|⟨_,h1⟩
    .have h2:=(howR i z h1).2;exact .inr ⟨i,hi,by unfold bl;rw[hg.ptow h2,h2];exact hb'⟩
    .refine(h1 b ?_).imp id fun⟨j,hj⟩=>⟨j,hblR j b hj⟩
     cases z<;>first|exact hb'|(simp at hb';done)|(rename_i ao _ _;cases ao<;>first|exact hb'|(simp at hb';done))
 have hblo:∀i b,i∉I->bl ptN owN i=some b->bl pt ow i=some b:=fun i b h2 hb=>by
  simpa only[bl,(hNo i h2).1,(hNo i h2).2]using hb
 have hltb:∀i b,bl pt ow i=some b->b<w.heap.size:=fun i b hb=>hg.fresh b (hg.mt i b hb)
 have hnotI:∀i b,i∉I->bl pt ow i=some b->∀j,bl ptR owR j≠some b:=fun i b hi hb j hj=>by
  obtain⟨h1,h2⟩:=hblR j b hj;exact hi (hg.inj i j b hb h2▸h1)
 have hV:∀b ob,zj w M b ob->zj w' M' b ob:=zr fun b ob hm hb=>by
  have hlt':=zd hb;refine⟨fun h'=>(hleft.mn b h').elim hm fun h=>O,?_⟩;rw[hleft.same b hlt' (fun j hj=>hm (hg.mt j b (hblR j b hj).2))];exact hb
 have hsame:∀i b ob,i∉I->bl pt ow i=some b->w.heap[b]? =some ob->w'.heap[b]? =some ob:=fun i b ob hi hb hh=>by
  rw[hleft.same b (zd hh) (hnotI i b hi hb)];exact hh
 have hnx:(nxt o I G r bs').hp =zu G.hp I bs':=by simp[nxt,hw]
 have hgetI:∀i,i∈I->hget (zu G.hp I bs') i=hget H' i:=fun i hi=>by
  rw[qj hnd hl1 (hIk i hi),Z4 hi]
 have hgetn:∀i,¬wp G.hp i->hget (zu G.hp I bs') i=.dead :=fun i hk=>wc hk
 have hgeto:∀i,i∉I->hget (zu G.hp I bs') i=hget G.hp i:=fun i h2=>by
  by_cases hk:wp G.hp i
  .rw[qj hnd hl1 hk,Z5 h2]
  .rw[hgetn i hk];cases h:hget G.hp i<;>first|rfl|exact absurd (zf (by rw[h];simp)) hk
 refine⟨M',ptN,owN,S,?_,?_,by rw[kg];exact hdf.mono hV⟩
 .rw[hnx];exact {
   os:=hleft.os.trans hg.os,tape:=hleft.tape.trans hg.tape,output:=hleft.output.trans hg.output
   size:=qB hg.size hleft.size
   keep:=fun b hb hm=>by
    rw[hleft.same b (qJ hb hg.size) (fun i hi=>by
     rcases hg.loc i b (hblR i b hi).2 with h1|h1
     .omega
     .exact hm h1.1)]
    exact hg.keep b hb hm
   fresh:=hcore'.fresh
   m0:=fun b hb=>hleft.mm b (hg.m0 b hb)
   m1:=hg.m1
   mt:=fun i b hb=>by
    by_cases hi:i∈I
    .exact hcore'.mt _ b (hblI i b hi hb).1
    .exact hleft.mm b (hg.mt i b (hblo i b hi hb))
   loc:=fun i b hb=>by
    by_cases hi:i∈I
    .rcases(hblI i b hi hb).2 with h1|⟨j,hj,h1⟩
     .exact .inl (qB hg.size h1)
     .rcases hg.loc j b h1 with h2|⟨h2,h3⟩
      .exact .inl h2
      .rcases hnear with hn|hn
       .have:=hn j hj;omega
       .exact .inr ⟨h2,hn i hi⟩
    .exact hg.loc i b (hblo i b hi hb)
   gm:=fun b hb=>hleft.mm b (hg.gm b hb)
   gl:=hg.gl
   gd:=fun i b hb hS=>by
    by_cases hi:i∈I
    .rcases(hblI i b hi hb).2 with h1|⟨j,_,h1⟩
     .have:=hg.fresh b (hg.gm b hS);omega
     .exact hg.gd j b h1 hS
    .exact hg.gd i b (hblo i b hi hb) hS
   farp:=fun i b hi hb=>by
    by_cases h2:i∈I
    .rw[(hNI i h2).1]at hb;exact hg.farp i b hi (hptI i b h2 hb)
    .rw[(hNo i h2).1]at hb;exact hg.farp i b hi hb
   farw:=fun i b hi hb=>by
    by_cases h2:i∈I
    .rw[(hNI i h2).2]at hb;by_cases h3:i∈B
     .rcases hB i h3 with h4|h4
      .omega
      .exact .inr h4
     .exact hg.farw i b hi (howI i b h2 h3 hb)
    .rw[(hNo i h2).2]at hb;exact hg.farw i b hi hb
   inj:=fun i j b hi hj=>by
    by_cases h1:i∈I<;>by_cases h2:j∈I
    .exact hcore'.inj _ _ b (hblI i b h1 hi).1 (hblI j b h2 hj).1
    .rcases(hblI i b h1 hi).2 with h4|⟨k,hk,h4⟩
     .have:=hltb _ _ (hblo j b h2 hj);omega
     .exact absurd (hg.inj _ _ b h4 (hblo j b h2 hj)▸hk) h2
    .rcases(hblI j b h2 hj).2 with h4|⟨k,hk,h4⟩
     .have:=hltb _ _ (hblo i b h1 hi);omega
     .exact absurd (hg.inj _ _ b h4 (hblo i b h1 hi)▸hk) h1
    .exact hg.inj i j b (hblo i b h1 hi) (hblo j b h2 hj)
   dpt:=fun i b hb=>by
    by_cases h2:i∈I
    .rw[(hNI i h2).1]at hb;rw[hgetI i h2];exact hcore'.dpt i b hb
    .rw[(hNo i h2).1]at hb;rw[hgeto i h2];exact hg.dpt i b hb
   dow:=fun i b hb=>by
    by_cases h2:i∈I
    .rw[(hNI i h2).2]at hb;rw[hgetI i h2];exact hcore'.dow i b hb
    .rw[(hNo i h2).2]at hb;rw[hgeto i h2];exact hg.dow i b hb
   blk:=fun i=>by
    by_cases h2:i∈I
    .rw[hgetI i h2];have:=(hcore'.blk i).ren (pt':=ptN) (ow':=owN) (S':=S) (i:=i) id (hNI i h2).1 (hNI i h2).2 (fun e=>absurd e (hIc i h2))
     rwa [Blk.mapI_id']at this
    .rw[hgeto i h2];refine(hg.blk i).mono (hNo i h2).1 (hNo i h2).2 hV (fun _=>hg.ptow) (fun b ob hb hh=>hsame i b ob h2 hb hh) fun b ob hS hh=>?_
     rw[hleft.same b (zd hh) (fun j hj=>hg.gd j b (hblR j b hj).2 hS)];exact hh}
 .intro pt3 ow3 hag;rw[hnx]at hag;have hnfreeI:∀i,i∈I->(hget (zu G.hp I bs') i).isFree =false:=fun i hi=>by
   rw[hgetI i hi];exact jb hnf1
  let pt4:Nat->Option Nat:=fun i=>if(hget G.hp i).isFree =true then pt3 i else pt i
  let ow4:Nat->Option Value:=fun i=>if(hget G.hp i).isFree =true then ow3 i else ow i
  have hag4:Agr G.hp pt pt4 ow ow4:=fun i hi=>by simp[pt4,ow4,hi]
  have hp4:∀i b,pt3 i=some b->pt4 i=some b:=fun i b hb=>by
   by_cases hfr:(hget G.hp i).isFree =true
   .simpa[pt4,hfr]using hb
   .have hfr':(hget G.hp i).isFree =false:=by simpa using hfr
    simp only[pt4,hfr',q2,if_false];by_cases h2:i∈I
    .have:=(hag i (hnfreeI i h2)).1;rw[this,(hNI i h2).1]at hb;exact hptI i b h2 hb
    .have:=(hag i (by rw[hgeto i h2];exact hfr')).1;rw[this,(hNo i h2).1]at hb;exact hb
  have ho4:∀i b,i∉B->ow3 i=some b->ow4 i=some b:=fun i b hn hb=>by
   by_cases hfr:(hget G.hp i).isFree =true
   .simpa[ow4,hfr]using hb
   .have hfr':(hget G.hp i).isFree =false:=by simpa using hfr
    simp only[ow4,hfr',q2,if_false];by_cases h2:i∈I
    .have:=(hag i (hnfreeI i h2)).2;rw[this,(hNI i h2).2]at hb;exact howI i b h2 hn hb
    .have:=(hag i (by rw[hgeto i h2];exact hfr')).2;rw[this,(hNo i h2).2]at hb;exact hb
  have hle4:∀is:List Nat,(∀i∈is,i∉B)->Env.le ⟨zj w M,pt4,ow4⟩ ⟨zj w' M',pt3,ow3⟩ is:=fun is his=>⟨hV,fun i hi=>⟨hp4 i,fun b=>ho4 i b (his i hi)⟩⟩
  have h3N:∀i,i∈I->pt3 i=pt' i/\ow3 i=ow' i:=fun i hi=>by
   have:=hag i (hnfreeI i hi);exact⟨this.1.trans (hNI i hi).1,this.2.trans (hNI i hi).2⟩
  have hle3:∀is:List Nat,(∀i∈is,i∈I)->Env.le ⟨zj w' M',pt',ow'⟩ ⟨zj w' M',pt3,ow3⟩ is:=fun is his=>⟨fun _ _ h=>h,fun i hi=>⟨fun b hb=>by
   have hb:pt3 i=some b:=hb;rw[(h3N i (his i hi)).1]at hb;exact hb,fun b hb=>by
   have hb:ow3 i=some b:=hb;rw[(h3N i (his i hi)).2]at hb;exact hb⟩⟩
  obtain⟨h1,h2⟩:=hs pt4 ow4 hag4;refine⟨?_,fun i l b cs Ty hl hb hcs=>?_⟩
  .simp only[nxt];have h1':=h1.imp _ _ (hle4 _ fun i hi hb=>hno1 i hb hi)
   cases o.dst with
   |none=>simpa[Act.put]using h1'
   |some e=>
    rw[kf];exact h1'.set (hr.imp _ _ (hle3 _ hr1)) e
  .rw[hnx]at hl;by_cases hi:i∈I
   .rw[(hNI i hi).1]at hb;rw[hgetI i hi]at hl;exact(hconts' _ l b cs Ty hl hb hcs).imp _ _ (hle3 _ fun j hj=>hr2 j (vf hl j hj))
   .rw[hgeto i hi]at hl;rw[(hNo i hi).1]at hb;have hcs':w.heap[b]? =some (.cells cs Ty (0,0)):=by
     obtain⟨b',cs',Ty',h3,h4⟩:=hg.cel i l hl;rw[hb]at h3;cases h3
     have:=hsame i b _ hi (by simp[bl,hb]) h4;rw[hcs]at this;cases this;exact h4
    exact(h2 i l b cs Ty hl hb hcs').imp _ _ (hle4 _ fun j hj hjB=>hno2 j hjB i l hi hl hj)
def ltC:List Nat->Bool
 | []=>true
 |i::l=>qV i 1999999&&ltC l
def qd8:List Nat->Bool
 | []=>true
 |i::l=>q4 1000000 i&&qd8 l
def okB:List Nat->Bool
 | []=>true
 |i::l=>(q4 i 999999||(q4 1500000 i&&q4 i 1999998))&&okB l
def zcf(I:List Nat):Hp->List Nat
 | []=> []
 |(i,b)::r=>match zco i I with
  |true=>zcf I r
  |false=>(match b with|.cells l=>qf l| _=> [])++zcf I r
def qer(sl:List AV)(hp:Hp)(I B:List Nat)(bs':List Blk)(r:AV):Bool:=
 xw I&&ltC I&&(zpt I||qd8 I)&&okB B&&zgt I (keys hp)&&xr B (qf sl)&&xr B (zcf I hp)&&xo I bs'&&zgt r.ids I&&zgt (zas (zz I bs')) I&&jk bs'
theorem zso:∀ {l:List Nat},ltC l=true->∀i∈l,i<1999999
 | [],_,i,hi=>by cases hi
 |j::l,h,i,hi=>by
  simp only[ltC,q1]at h;rcases q3.1 hi with rfl|hi
  .have:=h.1;rw[qR]at this;exact this
  .exact zso h.2 i hi
theorem zoh:∀ {l:List Nat},qd8 l=true->∀i∈l,1000000<=i
 | [],_,i,hi=>by cases hi
 |j::l,h,i,hi=>by
  simp only[qd8,q1]at h;rcases q3.1 hi with rfl|hi
  .exact q0 h.1
  .exact zoh h.2 i hi
theorem zsc:∀ {l:List Nat},okB l=true->∀i∈l,i<=999999\/(1500000<=i/\i<=1999998)
 | [],_,i,hi=>by cases hi
 |j::l,h,i,hi=>by
  simp only[okB,q1,q9]at h;rcases q3.1 hi with rfl|hi
  .exact h.1.imp q0 fun h=>⟨q0 h.1,q0 h.2⟩
  .exact zsc h.2 i hi
theorem zfw{I:List Nat}:∀ {hp:Hp}{k:Nat}{l:List AV},k∉I->hget hp k=.cells l->∀i∈qf l,i∈zcf I hp
 | [],_,_,_,h,_,_=>by simp[hget]at h
 |(j,b)::r,k,l,hk,h,i,hi=>by
  rw[ze]at h;by_cases e:j=k
  .subst e;rw[Z4 rfl]at h;subst h;have:zco j I=false:=by
    cases e:zco j I with
    |true=>exact absurd ((wh _ _).1 e) hk
    |false=>rfl
   simp only[zcf,this,q8];exact .inl hi
  .rw[Z5 e]at h;have:=zfw hk h i hi;simp only[zcf];split
   .exact this
   .exact List.mem_append_right _ this
theorem zgg(h:Rel c G a w){o:Oper}{cl:Call}{f:Operand}{g:Nat}(ho:o.op=.call cl)(hcl:cl.callee=.value f)(hf:zg G.sl f=.fn g []){I B:List Nat}{bs':List Blk}{r:AV}
 (hok:qer G.sl G.hp I B bs' r=true) (hfn:zwz P g B (zz I (zw G.hp I)) (um (zg G.sl) cl.args.toList) r (zz I bs')) (Q:Exit->Act->World->Prop):
 o.wpIn qW 0 P a w (Rel c (nxt o I G r bs')) Q:=by
 have hw:wr o.op=true:=by simp[wr,ho,hcl]
 simp only[qer,q1]at hok;obtain⟨⟨⟨⟨⟨⟨⟨⟨⟨⟨h1,h2⟩,h3⟩,h4⟩,h5⟩,h6⟩,h7⟩,h8⟩,h9⟩,h10⟩,h11⟩:=hok;obtain⟨M0,pt0,ow0,S0,_,_,hr0⟩:=h.own;have hfv:=zc hr0 f;rw[hf]at hfv;simp only[R]at hfv;obtain⟨vcaps,hfv,hcaps⟩:=hfv;have hc0:vcaps= #[]:=by
  obtain⟨l⟩:=vcaps
  cases l with
  |nil=>rfl
  |cons x l=>simp[Rs]at hcaps
 subst hc0;have hA:∀M pt ow,zdq G a w M pt ow->Rs ⟨zj w M,pt,ow⟩ (um (zg G.sl) cl.args.toList) (cl.args.toList.map a.eval):=fun M pt ow hs=>zfp (hs pt ow (Agr.refl _ _ _)).1 _
 obtain⟨⟨fn,hfn1,hbody,hname⟩,hok⟩:=hfn;have hrun:(execOp a.eval o).run P w=.ok (.enter g (cl.args.toList.map a.eval).toArray) w:=by
  have hprog:(program).run P w=.ok P w:=rfl;have e1:cl.args.map a.eval=(cl.args.toList.map a.eval).toArray :=by apply qQ;simp
  simp only[execOp,ho,resolve,hcl,hfv,Deferred.ofValue,w5,w7,qX,invoke,callFunc,hprog,hfn1,hname,hbody,q2,if_false,Array.empty_append,Array.append_empty];rw[e1]
 refine⟨fun f _=>(Wf.mk qW (.inl rfl)).ok.fn f,?_⟩;rw[zd0 hrun OC];have hkeys:∀i∈I,wp G.hp i:=fun i hi=>yt.1 (vz _ _ h5 i hi)
 obtain⟨M,pt,ow,hcore,hconts,hrs,hback⟩:=h.callB o (kj h1) (zso h2) (by
  rw[q9]at h3;exact h3.imp zfm zoh) (zsc h4) hkeys ((qo _ _).1 h6) (fun i hi k l hk hl hj=>(qo _ _).1 h7 i hi (zfw hk hl i hj)) hw _ _ hA bs' r h8 (vz _ _ h9) (vz _ _ h10) h11
 refine zs4 (F:=⟨qW,.inl rfl⟩) (hok w M pt ow _ hcore hconts hrs) fun e w' he=>?_
 have hx:=he;obtain⟨v,_,_,_,rfl,_⟩:=he;exact⟨v,rfl,hback v w' hx⟩
end
def farC:List Nat->Bool
 | []=>true
 |i::l=>q4 1000000 i&&q4 i 1999998&&farC l
def kOk(B:List Nat):List Nat->Bool
 | []=>true
 |i::l=>q4 1000000 i&&q4 i 1999998&&(qV i 1500000||zco i B)&&kOk B l
def zj2:List Blk->Bool
 | []=>true
 |.gst _::_=>false
 | _::l=>zj2 l
theorem zog:∀ {l:List Nat},farC l=true->∀i∈l,1000000<=i/\i<=1999998
 | [],_,i,hi=>by cases hi
 |j::l,h,i,hi=>by
  simp only[farC,q1]at h;rcases q3.1 hi with rfl|hi
  .exact⟨q0 h.1.1,q0 h.1.2⟩
  .exact zog h.2 i hi
theorem zmb{B:List Nat}:∀ {l:List Nat},kOk B l=true->∀i∈l,(1000000<=i/\i<=1999998)/\(i<1500000\/i∈B)
 | [],_,i,hi=>by cases hi
 |j::l,h,i,hi=>by
  simp only[kOk,q1,q9]at h;rcases q3.1 hi with rfl|hi
  .refine⟨⟨q0 h.1.1.1,q0 h.1.1.2⟩,h.1.2.imp (fun h=>?_) (wh _ _).1⟩;rw[qR]at h;exact h
  .exact zmb h.2 i hi
theorem zj1:∀ {H:Hp},zj2 (zdj H)=true->∀i J,hget H i≠ .gst J
 | [],_,i,J,h=>by simp[hget]at h
 |(j,b)::r,hn,i,J,h=>by
  rw[ze]at h;have hr:zj2 (zdj r)=true/\∀J,b≠ .gst J:=by
   cases b<;>first|(simp[zdj,zj2]at hn;done)|exact⟨by simpa[zdj,zj2]using hn,fun J e=>by cases e⟩
  split at h
  .exact hr.2 J h
  .exact zj1 hr.1 i J h
def fnCB(T:Tab)(B:List Nat)(c:Code)(n:Nat)(H:Hp)(A:List AV)(H':Hp)(W:St->Prop):Prop:=
 zgq (A++zbh (n-A.length)) fun sl=>zla (zbg (qa (za T c)) H) fun hp=>
  match xr (za T c) (qf A++zas H),xr (za T c) (keys H),farC (keys H),kOk B (keys H'),jk (zdj H),xw (keys H'),zj2 (zdj H')with
  |true,true,true,true,true,true,true=>W ⟨sl,hp⟩
  | _,_,_,_,_,_,_=>False
section
variable {P:Program} {T:Tab}
open Classical in
set_option maxHeartbeats 1000000 in
theorem uk(hT:TabOK P T){f:Nat}{fn:Func}{code:Code}(hf:P.funcs[f]? =some fn)(hb:fn.body=some code)(hname:(fn.name== "runtime.NumGoroutine")=false)
 {B:List Nat} (ex:List Nat) {H H':Hp} {A:List AV} {r:AV} (h:fnCB T B code fn.ntmps H A H' (SemOK P T fn.results.toList ex r H' code)):zwz P f B H A r H':=by
 unfold fnCB at h;rw[qk,wl]at h;split at h
 case h_2=>exact h.elim
 rename_i hd1 hd2 hfar hfar' hnf hnod hng;have hk:=h;rw[qo]at hd1 hd2;have hnod:=kj hnod;rw[zmm]at hnf;refine⟨⟨fn,hf,by rw[hb];rfl,hname⟩,fun w M pt ow vs hcore hcont hargs=>?_⟩
 let c0:Ctx:= {M0:=M,w0:=w,mine:=fun b=>∃i,bl pt ow i=some b,sm:=fun _=>False,pt0:=pt,ow0:=ow}
 have hkout:∀i,wp H i->i∉za T code:=fun i hi hj=>hd2 i hj (yt.2 hi)
 have hback:∀i x,hget (zbg (qa (za T code)) H) i=x->x≠ .free ->hget H i=x:=fun i x hx hn=>by
  by_cases hi:i∈za T code
  .rw[wo hi]at hx;exact absurd hx.symm hn
  .rw[zt hi]at hx;exact hx
 have hlen:=hargs.length;have hkpt:∀i,(hget H i).isPt =true->wp H i:=fun i hi=>zf fun e=>by rw[e]at hi;cases hi
 have hkow:∀i,(hget H i).isBuf =true->wp H i:=fun i hi=>zf fun e=>by rw[e]at hi;cases hi
 have hg0:Good c0 M pt ow (fun _=>False) (zbg (qa (za T code)) H) w:= {
  os:=rfl,tape:=rfl,output:=rfl,size:=qG _,keep:=fun _ _ _=>rfl,fresh:=hcore.fresh,m0:=fun _ h=>h,m1:=hcore.fresh,mt:=hcore.mt
  gm:=hcore.gm,gd:=hcore.gd,gl:=fun b hb=>hb.elim
  loc:=fun i b hb=>.inr ⟨⟨i,hb⟩,by
   have hk:wp H i:=by
    unfold bl at hb
    cases hq:pt i with
    |some z=>exact hkpt i (hcore.dpt i z hq)
    |none=>
     rw[hq]at hb
     cases hq2:ow i with
     |none=>rw[hq2]at hb;cases hb
     |some z=>exact hkow i (hcore.dow i z hq2)
   exact(zog hfar i (yt.2 hk)).1⟩
  farp:=fun _ _ _ h=>h,farw:=fun _ _ _ h=>.inl h
  inj:=hcore.inj
  dpt:=fun i b hb=>by rw[zt (hkout i (hkpt i (hcore.dpt i b hb)))];exact hcore.dpt i b hb
  dow:=fun i b hb=>by rw[zt (hkout i (hkow i (hcore.dow i b hb)))];exact hcore.dow i b hb
  blk:=fun i=>by
   by_cases hi:i∈za T code
   .rw[wo hi];trivial
   .rw[zt hi];exact hcore.blk i}
 have hfree:∀i,i∈qf A++zas H->(hget (zbg (qa (za T code)) H) i).isFree =false:=fun i hi=>by
  rw[zt fun hj=>hd1 i hj hi];exact zb8 hnf
 have hrel:Rel c0 ⟨A++zbh (fn.ntmps-A.length),zbg (qa (za T code)) H⟩ {tmps:=vs.toArray++qC (fn.ntmps-vs.toArray.size) undef,defers:= []} w:=by
  refine⟨M,pt,ow,fun _=>False,hg0,fun pt' ow' hag=>?_,.nil⟩;have hle:∀is:List Nat,(∀i∈is,i∈qf A++zas H)->Env.le ⟨zj w M,pt,ow⟩ ⟨zj w M,pt',ow'⟩ is:=fun is his=>⟨fun _ _ h=>h,fun i hi=>by
   have:=hag i (hfree i (his i hi));exact⟨fun b hb=>by change pt' i=some b at hb;rw[this.1]at hb;exact hb,fun b hb=>by change ow' i=some b at hb;rw[this.2]at hb;exact hb⟩⟩
  refine⟨?_,fun i l b cs Ty hl hb hcs=>?_⟩
  .have h1:=hargs.imp A _ (hle _ fun i hi=>by simp[hi]);have h2:=zmn (ρ:=⟨zj w M,pt',ow'⟩) (fn.ntmps-A.length);have:=h1.append h2;rw[hlen]at this⊢;simpa using this
  .have hl':=hback i _ hl OC;exact(hcont i l b cs Ty hl' hb hcs).imp _ _ (hle _ fun j hj=>by simp only[q8];exact .inr (vf hl' j hj))
 have hfin:∀(G:St)(a:Act)(w':World),Rel c0 G a w'->zdp T fn.results.toList ex r H' G->LeavesInM qW 0 P fn a.tmps (AnsB B w M pt ow r H') a.defers .returning w':=by
  intro G a w' hr hK;obtain⟨_,_,_,_,_,_,Ds,hDs,_⟩:=id hr;obtain⟨tm,ds⟩:=a;simp only at hDs;subst hDs;refine za5 tm (fun w' hr=>?_) Ds w' hr;unfold zdp at hK;obtain⟨l1,hK,_⟩:=xu hT hr _ _ hK;obtain⟨σ',hr',hK⟩:=yc hr hK;obtain⟨l,⟨hleA,hleH⟩,vs',hrun,hrs⟩:=xu hT hr' _ _ hK;obtain⟨M1,pt1,ow1,S1,hg,hs,_⟩:=hr';obtain⟨v,hv,hRv⟩:=zfd hrun (hrs M1 pt1 ow1 S1 hg hs);refine⟨v,hv,?_⟩;obtain⟨ptN,owN,hgN,hless,hcel⟩:=hg.weaken (zc9 hleH);have hlo:∀i,i∈keys H'->1000000<=i/\i<=1999998:=fun i hi=>(zmb hfar' i hi).1
  have hex:∀i,i∈keys H'->exI ex i=i:=fun i hi=>zx2 (by have:=hlo i hi;omega)
  have hinj:∀i,i∈keys H'->∀j∈keys H',exI ex j=exI ex i->j=i:=fun i hi j hj e=>by rwa [hex i hi,hex j hj]at e
  have hgetm:∀i,i∈keys H'->hget (zc5 (exI ex) H') (exI ex i)=(hget H' i).mapI (exI ex):=fun i hi=>zf0 _ hi (hinj i hi)
  have hkeyH':∀i,hget H' i≠ .dead ->i∈keys H':=fun i hi=>yt.2 (zf hi)
  let ptF:Nat->Option Nat:=fun i=>if i∈keys H' then ptN (exI ex i)else none
  let owF:Nat->Option Value:=fun i=>if i∈keys H' then owN (exI ex i)else none
  let MF:Nat->Prop:=fun b=>M b\/∃i,i∈keys H'/\bl ptN owN i=some b
  have hF:∀i,i∈keys H'->ptF i=ptN i/\owF i=owN i:=fun i hi=>by simp only[ptF,owF,Z4 hi,hex i hi];exact⟨trivial,trivial⟩
  have hF':∀i,i∈keys H'->ptF i=ptN (exI ex i)/\owF i=owN (exI ex i):=fun i hi=>by rw[hex i hi];exact hF i hi
  have hFp:∀i b,ptF i=some b->i∈keys H'/\ptN i=some b:=fun i b hb=>by
   by_cases hi:i∈keys H'
   .exact⟨hi,by rw[(hF i hi).1]at hb;exact hb⟩
   .simp only[ptF,Z5 hi]at hb;cases hb
  have hFw:∀i b,owF i=some b->i∈keys H'/\owN i=some b:=fun i b hb=>by
   by_cases hi:i∈keys H'
   .exact⟨hi,by rw[(hF i hi).2]at hb;exact hb⟩
   .simp only[owF,Z5 hi]at hb;cases hb
  have hFb:∀i b,bl ptF owF i=some b->i∈keys H'/\bl ptN owN i=some b:=fun i b hb=>by
   by_cases hi:i∈keys H'
   .exact⟨hi,by simpa only[bl,(hF i hi).1,(hF i hi).2]using hb⟩
   .simp only[bl,ptF,owF,Z5 hi]at hb;cases hb
  have hMF1:∀b,MF b->M1 b:=fun b hb=>by
   rcases hb with h1|⟨i,_,h1⟩
   .exact hgN.m0 b h1
   .exact hgN.mt i b h1
  have hV:∀b o,zj w' M1 b o->zj w' MF b o:=zr fun b o hm hb=>⟨fun h'=>hm (hMF1 b h'),hb⟩
  have hR1:∀(x:AV)(y:Value),R ⟨zj w' M1,ptN,owN⟩ (x.mapI (exI ex)) y->R ⟨zj w' MF,ptF,owF⟩ x y:=fun x y hx=>by
   have h1:=(R.mapI (V:=zj w' M1) (f:=exI ex) (pt:=fun i=>ptN (exI ex i)) (ow:=fun i=>owN (exI ex i)) (pt':=ptN) (ow':=owN) x y fun i _=>⟨rfl,rfl⟩).1 hx;exact h1.imp x y ⟨hV,fun i _=>⟨fun b hb=>by
    obtain⟨h2,h3⟩:=hFp i b hb;show ptN (exI ex i)=some b;rw[hex i h2];exact h3,fun b hb=>by
    obtain⟨h2,h3⟩:=hFw i b hb;show owN (exI ex i)=some b;rw[hex i h2];exact h3⟩⟩
  have hR2:∀(x:List AV)(y:List Value),Rs ⟨zj w' M1,ptN,owN⟩ (yr (exI ex) x) y->Rs ⟨zj w' MF,ptF,owF⟩ x y:=fun x y hx=>by
   have h1:=(Rs.mapI (V:=zj w' M1) (f:=exI ex) (pt:=fun i=>ptN (exI ex i)) (ow:=fun i=>owN (exI ex i)) (pt':=ptN) (ow':=owN) x y fun i _=>⟨rfl,rfl⟩).1 hx;exact h1.imp x y ⟨hV,fun i _=>⟨fun b hb=>by
    obtain⟨h2,h3⟩:=hFp i b hb;show ptN (exI ex i)=some b;rw[hex i h2];exact h3,fun b hb=>by
    obtain⟨h2,h3⟩:=hFw i b hb;show owN (exI ex i)=some b;rw[hex i h2];exact h3⟩⟩
  refine⟨v,MF,ptF,owF,rfl,?_,?_,hR1 r v (R.le _ _ _ hleA (hless _) hRv),?_⟩
  .exact {
    fresh:=fun b hb=>hgN.fresh b (hMF1 b hb)
    mt:=fun i b hb=>by
     obtain⟨hi,hb'⟩:=hFb i b hb;exact .inr ⟨i,hi,hb'⟩
    inj:=fun i j b hi hj=>hgN.inj i j b (hFb i b hi).2 (hFb j b hj).2
    gm:=fun b hb=>hb.elim
    gd:=fun i b _ hS=>hS
    dpt:=fun i b hb=>by
     obtain⟨hi,hb'⟩:=hFp i b hb;have:=hgN.dpt _ b hb';have e:=hgetm i hi;rw[hex i hi]at e;rw[e,xz]at this;exact this
    dow:=fun i b hb=>by
     obtain⟨hi,hb'⟩:=hFw i b hb;have:=hgN.dow _ b hb';have e:=hgetm i hi;rw[hex i hi]at e;rw[e,yi]at this;exact this
    blk:=fun i=>by
     by_cases hi:i∈keys H'
     .have h1:=hgN.blk (exI ex i);rw[hgetm i hi]at h1;have h2:=h1.unren (pt':=ptF) (ow':=owF) (i:=i) (exI ex) (hF' i hi).1 (hF' i hi).2 fun e=>by
       rw[hex i hi]at e;exact e
      have h3:=h2.mono (w':=w') (V':=zj w' MF) rfl rfl hV (fun x hx=>by
       obtain⟨_,hx'⟩:=hFw i x hx;rw[(hF i hi).1];exact hgN.ptow hx') (fun _ _ _ h=>h) (fun _ _ _ h=>h)
      have h4:=h3.ren (pt':=ptF) (ow':=owF) (S':=fun _=>False) (i:=i) id rfl rfl (fun e=>by
       have:=hlo i hi;simp only[qc]at e;omega)
      rwa [Blk.mapI_id']at h4
     .have:hget H' i=.dead :=by
       cases e:hget H' i<;>first|rfl|exact absurd (hkeyH' i (by rw[e];simp)) hi
      rw[this];trivial}
  .intro i m b cs Ty hm hb' hcs;obtain⟨hi,hb''⟩:=hFp i b hb';have h1:=hgetm i hi;rw[hm]at h1;simp only[Blk.mapI]at h1;obtain⟨l0,h2,h3,h4⟩:=hcel _ _ h1;rw[hex i hi]at h2 h4;rw[h4]at hb'';exact hR2 m _ (Rs.le _ _ _ h3 (hless _) ((hs pt1 ow1 (Agr.refl _ _ _)).2 _ l0 b cs Ty h2 hb'' hcs))
  .exact {
    os:=hgN.os,tape:=hgN.tape,output:=hgN.output,size:=hgN.size
    same:=fun b hb hn=>hgN.keep b hb fun⟨i,hi⟩=>hn i hi
    mm:=fun b hb=>.inl hb
    mn:=fun b hb=>by
     rcases hb with h1|⟨i,hi,h1⟩
     .exact .inl h1
     .rcases hgN.loc i b h1 with h2|⟨⟨j,h2⟩,_⟩
      .exact .inr h2
      .exact .inl (hcore.mt j b h2)
    lept:=fun i b hb=>by
     obtain⟨hi,hb'⟩:=hFp i b hb;exact hgN.farp i b (hlo i hi).1 hb'
    leow:=fun i x hx=>by
     obtain⟨hi,hx'⟩:=hFw i x hx;rcases hgN.farw i x (hlo i hi).1 hx' with h1|h1
     .exact .inl h1
     .rcases(zmb hfar' i hi).2 with h2|h2
      .omega
      .refine .inr ⟨h2,fun b hb=>?_⟩;have hbl:bl ptN owN i=some b:=by
        unfold bl;rw[hgN.ptow hx',hx'];cases x<;>first|exact hb|(simp[vbl]at hb;done)|(rename_i ao _ _;cases ao<;>first|exact hb|(simp[vbl]at hb;done))
       rcases hgN.loc i b hbl with h3|⟨h3,_⟩
       .exact .inl h3
       .exact .inr h3}
 refine callsIn_wide.1 (callsIn_of_wp_marks (n:=0) hf hb trivial (hk.sem c0 _ _ _ hrel fun e G a w' hr hK=>?_))
 cases e with
 |normal=>exact hfin G a w' hr hK
 |ret=>exact hfin G a w' hr hK
 | _=>exact hK.elim
end
structure Tri(P:Program)(c:Code)(G:St)(K:Exit->St->Prop):Prop where
 run:∀(c0:Ctx)(a:Act)(w:World)(Q:Exit->Act->World->Prop),Rel c0 G a w->(∀e G a w,Rel c0 G a w->K e G->Q e a w)->c.wpIn qW 0 P Q a w
section
variable {P:Program} {T:Tab}
theorem zys{x y:Code}{G:St}{n m:St->Prop}{e:Nat->St->Prop}{r:St->Prop}(h1:Tri P x G (K3 m e r))(h2:∀U,m U->Tri P y U (K3 n e r)):Tri P (.seq x y) G (K3 n e r):=by
 refine⟨fun c0 a w Q hr hq=>wpIn_seq (h1.run c0 a w _ hr fun ex U a w hr hk=>?_)⟩
 cases ex with
 |normal=>exact(h2 U hk).run c0 a w Q hr hq
 |exit i=>exact hq _ _ _ _ hr hk
 |ret=>exact hq _ _ _ _ hr hk
 | _=>exact hk.elim
theorem zmz{x:Code}{G:St}{K K':Exit->St->Prop}(h:Tri P x G K)(hk:∀e U,K e U->K' e U):Tri P x G K':=
 ⟨fun c0 a w Q hr hq=>h.run c0 a w Q hr fun e U a w hr h=>hq e U a w hr (hk e U h)⟩
theorem zqq{id:Nat}{x:Code}{G:St}{n:St->Prop}{e:Nat->St->Prop}{r:St->Prop}
 (h:Tri P x G (K3 n (fun i G=>match q5 i id with|true=>n G|false=>e i G) r)):Tri P (.block id x) G (K3 n e r):=by
 refine⟨fun c0 a w Q hr hq=>wpIn_block (h.run c0 a w _ hr fun ex U a w hr hk=>?_)⟩
 cases ex with
 |normal=>exact hq _ _ _ _ hr hk
 |exit i=>
  have hk:(match q5 i id with|true=>n U|false=>e i U):=hk;simp only[Exit.inBlock]
  cases e2:q5 i id with
  |true=>simp only[e2]at hk;rw[Z4 ((zb _ _).1 e2)];exact hq _ _ _ _ hr hk
  |false=>simp only[e2]at hk;rw[Z5 ((zo _ _).1 e2)];exact hq _ _ _ _ hr hk
 |ret=>exact hq _ _ _ _ hr hk
 | _=>exact hk.elim
theorem zuy{x:Code}{G:St}{n:St->Prop}{e:Nat->St->Prop}{r:St->Prop}{X:Type}(σm:X->St)(I:X->Prop)(μ:X->Nat)(x₀:X)(h0:I x₀)(hle:leS G (σm x₀))(hfr:∀x,I x->xr (zcg (σm x).hp) (σm x).ids =true)
 (h:∀y,I y->Tri P x (σm y) (K3 (fun U=>∃y',I y'/\μ y'<μ y/\leS U (σm y')) e r)):Tri P (.loop x) G (K3 n e r):=by
 refine⟨fun c0 a w Q hr hq=>?_⟩;refine zcp (F:=⟨qW,.inl rfl⟩) (I:=I) (J:=fun y a w=>Rel c0 (σm y) a w) (μ:=μ) h0 (hr.weaken hle (hfr x₀ h0)) fun y a' w' hy hj=>?_
 refine(h y hy).run c0 a' w' _ hj fun ex U a w hr hk=>?_
 cases ex with
 |normal=>
  obtain⟨y',hy',hlt,hle⟩:=hk;exact⟨y',hy',hr.weaken hle (hfr y' hy'),hlt⟩
 |exit i=>exact hq _ _ _ _ hr hk
 |ret=>exact hq _ _ _ _ hr hk
 | _=>exact hk.elim
theorem zy4{res:List ResultVar}{ex:List Nat}{rv:AV}{H':Hp}{x rest:Code}{G:St}{m:St->Prop}(h1:Tri P x G (K3 m (fun _ _=>False) (fun G=>zdp T res ex rv H' G)))
 (h2:∀U,m U->SemOK P T res ex rv H' rest U):SemOK P T res ex rv H' (.seq x rest) G:=by
 refine⟨fun c0 a w Q hr hq=>wpIn_seq (h1.run c0 a w _ hr fun e U a w hr hk=>?_)⟩
 cases e with
 |normal=>exact(h2 U hk).sem c0 a w Q hr hq
 |ret=>exact hq _ _ _ _ hr hk
 | _=>exact hk.elim
theorem qcr{res:List ResultVar}{ex:List Nat}{rv:AV}{H':Hp}{c:Code}{G U:St}(hle:leS G U)(hfr:xr (zcg U.hp) U.ids=true)(h:SemOK P T res ex rv H' c U):SemOK P T res ex rv H' c G:=
 ⟨fun c0 a w Q hr hq=>h.sem c0 a w Q (hr.weaken hle hfr) hq⟩
def qa1(P:Program)(o:Oper)(f:Operand)(args:List Operand)(G:St)(K:St->Prop):Prop:=match G with
 |⟨sl,hp⟩=>∃(g:Nat)(I B:List Nat)(bs':List Blk)(r:AV),zg sl f=.fn g []/\qer sl hp I B bs' r=true/\zwz P g B (zz I (zw hp I)) (um (zg sl) args) r (zz I bs')/\
   frc r fun r=>zxk ⟨sl,hp⟩ o.dst r fun σ'=>match σ' with
    |⟨sl',hp'⟩=>zp1 bs' fun bs=>zab hp' I bs fun h=>K ⟨sl',h⟩
theorem zmk{c:Ctx}{G:St}{a:Act}{w:World}(h:Rel c G a w){o:Oper}{cl:Call}{f:Operand}(ho:o.op=.call cl)(hcl:cl.callee=.value f){K:St->Prop}(hk:qa1 P o f cl.args.toList G K):
 ∃σ',K σ'/\∀Q,o.wpIn qW 0 P a w (Rel c σ') Q:=by
 obtain⟨sl,hp⟩:=G;obtain⟨g,I,B,bs',r,hf,hok,hfn,hk⟩:=hk;rw[zch,uy]at hk;simp only[zdg,zbt]at hk;refine⟨nxt o I ⟨sl,hp⟩ r bs',?_,zgg h ho hcl hf hok hfn⟩;have hw:wr o.op=true:=by simp[wr,ho,hcl]
 simp only[nxt,hw];exact hk
theorem zik(hT:TabOK P T){c:Ctx}{ops:Array Oper}{rest:List Oper}{Q:Exit->Act->World->Prop}{K:St->Prop}(hQ:∀G a w,Rel c G a w->K G->wpListIn qW 0 P ops Q rest a w):
 ∀(l:List Oper)(G:St)(a:Act)(w:World),Rel c G a w->zxn T (CN P) ops.toList l G K->wpListIn qW 0 P ops Q (l++rest) a w
 | [],G,a,w,h,hk=>hQ G a w h hk
 |o::l,G,a,w,h,hk=>by
  simp only[zxn,opK1]at hk;rw[qF];refine wpListIn_step fun K' hK'=>?_
  rcases kp h hk with ⟨hw,hk⟩|⟨hw,hk⟩
  .rw[Z4 hw];obtain⟨σ',hk',hwp⟩:=zg5 (F:=⟨qW,.inl rfl⟩) hT h hk;exact Oper.wpIn_mono (fun a' w' hr=>hK' _ _ (zik hT hQ l σ' a' w' hr hk')) (hwp Q)
  .rw[Z5 (by rw[hw];simp)];rw[uy]at hk;exact⟨fun f _=>(Wf.mk qW (.inl rfl)).ok.fn f,hK' _ _ (zik hT hQ l _ _ _ (h.skip o) hk)⟩
theorem zle(hT:TabOK P T){id:Nat}{ops:Array Oper}{sl:List AV}{hp:Hp}{n:St->Prop}{e:Nat->St->Prop}{r:St->Prop}(l1 l2:List Oper){o:Oper}(hops:ops.toList=l1++o::l2)(hg:o.guard=none)
 {cl:Call} {f:Operand} (ho:o.op=.call cl) (hcl:cl.callee=.value f)
 (h:zgq sl fun sl=>zla hp fun hp=>zxm T (CN P) ops.toList l1 ⟨sl,hp⟩ fun G=>qa1 P o f cl.args.toList G fun G=>zxm T (CN P) ops.toList l2 G n):Tri P (.region id ops false) ⟨sl,hp⟩ (K3 n e r):=by
 rw[qk,wl]at h;simp only[zr8]at h;refine⟨fun c0 a w Q hr hq=>wpIn_region_list ?_⟩;rw[hops];refine zik hT (fun G a w hr hk=>?_) l1 _ a w hr h;obtain⟨σ',hk',hwp⟩:=zmk hr ho hcl hk;refine wpListIn_step fun K' hK'=>?_
 rcases kp hr (ops:=ops) (run:=fun _=>True) (skip:=fun _=>False) (o:=o) (by unfold zat;rw[hg];trivial)with ⟨hw,_⟩|⟨_,hk⟩
 .rw[Z4 hw];refine Oper.wpIn_mono (fun a' w' hr=>hK' _ _ ?_) (hwp Q);exact zbl (F:=⟨qW,.inl rfl⟩) hT (fun G a w hr hk=>hq _ _ _ _ hr hk) l2 σ' a' w' hr hk'
 .exact hk.elim
noncomputable def qb5(P:Program)(T:Tab)(n:Nat)(c:Code)(G:St)(N:St->Prop):Prop:=match c with
 |.region _ ops false=>match ops.toList[n]? with
   |some o=>match o.guard,o.op with
    |none,.call cl=>match cl.callee with
     |.value f=>zxm T (CN P) ops.toList (ops.toList.take n) G fun G=>qa1 P o f cl.args.toList G fun G=>zxm T (CN P) ops.toList (ops.toList.drop (n+1)) G N
     | _=>False
    | _,_=>False
   |none=>False
 | _=>False
theorem wt(hT:TabOK P T)(n:Nat){c:Code}{sl:List AV}{hp:Hp}{N:St->Prop}{e:Nat->St->Prop}{r:St->Prop}
 (h:zgq sl fun sl=>zla hp fun hp=>qb5 P T n c ⟨sl,hp⟩ N):Tri P c ⟨sl,hp⟩ (K3 N e r):=by
 rw[qk,wl]at h;unfold qb5 at h;split at h
 .rename_i id ops;split at h
  .rename_i o ho;split at h
   .rename_i cl hg hop;split at h
    .rename_i f hcl;have hlen:=(qE.1 ho).1;have hsplit:ops.toList=ops.toList.take n++o::ops.toList.drop (n+1):=by
      have h1:=(qE.1 ho).2;rw[<-h1,List.getElem_cons_drop,List.take_append_drop]
     exact zle hT _ _ hsplit hg hop hcl (by rw[qk,wl];exact h)
    .exact h.elim
   .exact h.elim
  .exact h.elim
 .exact h.elim
def qdx:Blk->Bool
 |.dead =>true
 | _=>false
def zqx(hp:Hp)(i j:Nat):Bool:=
 zxc [(i,j)]&&(q4 j 999999||q4 1000000 i)&&(q4 i 999999||(q4 1500000 i&&q4 i 1999998))&&qdx (hget hp i)&&(hget hp j).isBuf
theorem Rel.swap{c:Ctx}{sl:List AV}{hp:Hp}{a:Act}{w:World}(h:Rel c ⟨sl,hp⟩ a w){i j:Nat}(hok:zqx hp i j=true):Rel c ⟨yr (sw [(i,j)]) sl,zc5 (sw [(i,j)]) hp⟩ a w:=by
 obtain⟨M,pt,ow,S,hg,hs,hd⟩:=h;simp only[zqx,q1,q9]at hok;obtain⟨⟨⟨⟨h1,h2⟩,h3⟩,h4⟩,h5⟩:=hok;have hff:∀x,sw [(i,j)] (sw [(i,j)] x)=x:=fun x=>zqz x h1
 have hhi:∀x,1999999<=x->sw [(i,j)] x=x:=fun x hx=>zu3 h1 hx
 have hsw:∀x,sw [(i,j)] x=if x=i then j else if x=j then i else x:=fun x=>by
  simp only[sw]
  cases e1:q5 x i with
  |true=>rw[Z4 ((zb _ _).1 e1)]
  |false=>
   rw[Z5 ((zo _ _).1 e1)]
   cases e2:q5 x j with
   |true=>rw[Z4 ((zb _ _).1 e2)]
   |false=>rw[Z5 ((zo _ _).1 e2)]
 have hdead:hget hp i=.dead :=by
  cases e:hget hp i<;>first|rfl|(rw[e]at h4;cases h4)
 have hpi:pt i=none:=hg.ptn (by rw[hdead];rfl);have hoi:ow i=none:=hg.own (by rw[hdead];rfl);have hpj:pt j=none:=hg.ptn (by
  cases e:hget hp j<;>first|rfl|(rw[e]at h5;cases h5))
 have hj1:q4 j 999999=true->j<=999999:=q0;have hc:=hg.toCore.domap (sw [(i,j)]) hff hhi;have hbl:∀x b,bl (fun x=>pt (sw [(i,j)] x)) (fun x=>ow (sw [(i,j)] x)) x=some b->(x=i/\bl pt ow j=some b)\/(x≠i/\x≠j/\bl pt ow x=some b):=fun x b hb=>by
  have hb:bl pt ow (sw [(i,j)] x)=some b:=hb;rw[hsw]at hb;by_cases e1:x=i
  .rw[Z4 e1]at hb;exact .inl ⟨e1,hb⟩
  .rw[Z5 e1]at hb;by_cases e2:x=j
   .rw[Z4 e2]at hb;unfold bl at hb;rw[hpi,hoi]at hb;cases hb
   .rw[Z5 e2]at hb;exact .inr ⟨e1,e2,hb⟩
 refine⟨M,fun x=>pt (sw [(i,j)] x),fun x=>ow (sw [(i,j)] x),S,?_,?_,hd⟩
 .exact {hc with
   os:=hg.os,tape:=hg.tape,output:=hg.output,size:=hg.size,keep:=hg.keep,m0:=hg.m0,m1:=hg.m1,gl:=hg.gl
   loc:=fun x b hb=>by
    rcases hbl x b hb with ⟨rfl,h6⟩|⟨_,_,h6⟩
    .rcases hg.loc j b h6 with h7|⟨h7,h8⟩
     .exact .inl h7
     .rcases h2 with h2|h2
      .have:=q0 h2;omega
      .exact .inr ⟨h7,q0 h2⟩
    .exact hg.loc x b h6
   farp:=fun x b hx hb=>by
    have hb:pt (sw [(i,j)] x)=some b:=hb;rw[hsw]at hb;by_cases e1:x=i
    .rw[Z4 e1,hpj]at hb;cases hb
    .rw[Z5 e1]at hb;by_cases e2:x=j
     .rw[Z4 e2,hpi]at hb;cases hb
     .rw[Z5 e2]at hb;exact hg.farp x b hx hb
   farw:=fun x b hx hb=>by
    have hb:ow (sw [(i,j)] x)=some b:=hb;rw[hsw]at hb;by_cases e1:x=i
    .subst e1;rcases h3 with h3|h3
     .have:=q0 h3;omega
     .exact .inr ⟨q0 h3.1,q0 h3.2⟩
    .rw[Z5 e1]at hb;by_cases e2:x=j
     .rw[Z4 e2,hoi]at hb;cases hb
     .rw[Z5 e2]at hb;exact hg.farw x b hx hb}
 .intro pt3 ow3 hag;have hag4:Agr hp pt (fun x=>pt3 (sw [(i,j)] x)) ow (fun x=>ow3 (sw [(i,j)] x)):=fun x hx=>by
   have:=hag (sw [(i,j)] x) (by
    show(hget (zc5 (sw [(i,j)]) hp) (sw [(i,j)] x)).isFree =false;rw[wz _ _ hff,zca];exact hx)
   simp only[hff]at this;exact this
  obtain⟨h6,h7⟩:=hs _ _ hag4;refine⟨(Rs.mapI sl _ fun x _=>⟨rfl,rfl⟩).2 h6,fun x l b cs Ty hl hb hcs=>?_⟩;have hl:hget (zc5 (sw [(i,j)]) hp) x=.cells l:=hl;have hq:=wz (H:=hp) (i:=sw [(i,j)] x) (sw [(i,j)]) (sw [(i,j)]) hff;rw[hff,hl]at hq;obtain⟨m,hm,rfl⟩:=zbq hq.symm;exact(Rs.mapI m _ fun x _=>⟨rfl,rfl⟩).2 (h7 _ m b cs Ty hm hb hcs)
theorem zae{res:List ResultVar}{ex:List Nat}{rv:AV}{H':Hp}{c:Code}{sl:List AV}{hp:Hp}(i j:Nat)(hok:zqx hp i j=true)(h:SemOK P T res ex rv H' c ⟨yr (sw [(i,j)]) sl,zc5 (sw [(i,j)]) hp⟩):SemOK P T res ex rv H' c ⟨sl,hp⟩:=
 ⟨fun c0 a w Q hr hq=>h.sem c0 a w Q (hr.swap hok) hq⟩
abbrev RM4:=St->(St->Prop)->(Nat->St->Prop)->(St->Prop)->Prop
noncomputable def zlt(P:Program)(T:Tab)(sp:List Nat)(id:Nat)(ops:Array Oper)(draw:Bool):RM4:=fun G n e r=>match zco id sp with
 |true=>Tri P (.region id ops draw) G (K3 n (fun _ _=>False) (fun _=>False))
 |false=>zrm T (CN P) id ops draw true G n e r
def qSeq(_ _:Code)(iha ihb:RM4):RM4:=fun G n e r=>iha G (fun G=>ihb G n e r) e r
def zze(c:Operand)(_ _:Code)(iha ihb:RM4):RM4:=fun G n e r=>match zg G.sl c with
    |.bool t=> @Bool.rec (fun _=>Prop) (ihb G n e r) (iha G n e r) t
    |.ub p q=>(p->iha G n e r)/\(q->ihb G n e r)
    | _=>False
def qcz(id:Nat)(_:Code)(ih:RM4):RM4:=fun G n e r=>ih G n (fun i G=>match q5 i id with
 |true=>n G
 |false=>e i G) r
def zzd(T:Tab)(c:Code)(ih:RM4):RM4:=fun G _ e r=>∃(X:Type)(I:X->Prop)(us:X->List (Nat×AV))(hu:X->List (Nat×Blk))(μ:X->Nat)(x₀:X),
 I x₀/\(zef (jg c) fun ws=>zef (za T c) fun ds=>zob ws ds (us x₀) (hu x₀) G (fun U=>leS G U))/\
 ∀x,I x->zef (jg c) fun ws=>zef (za T c) fun ds=>zob ws ds (us x) (hu x) G fun U=>xr (zcg U.hp) U.ids=true/\
  ih U (fun σ'=>∃x',I x'/\μ x'<μ x/\zob ws ds (us x') (hu x') G fun τ'=>leS σ' τ') e r
def qNo:RM4:=fun _ _ _ _=>False
noncomputable def zp4(P:Program)(T:Tab)(sp:List Nat)(c:Code):RM4:=
 @Code.rec (fun _=>RM4) (fun G n _ _=>n G) (zlt P T sp) qSeq zze qcz (zzd T) (fun _ _ _ _ _ _=>qNo) (fun id G _ e _=>e id G) (fun _ _=>qNo) (fun _=>qNo) (fun _=>qNo) (fun G _ _ r=>r G) (fun _=>qNo) c
theorem zk0(hT:TabOK P T)(hmx:P.follows .mixedOrders =true)(sp:List Nat):∀(c:Code)(G:St)(n:St->Prop)(e:Nat->St->Prop)(r:St->Prop),zp4 P T sp c G n e r->Tri P c G (K3 n e r):=by
 have hw:∀(c:Code)(G:St)(n:St->Prop)(e:Nat->St->Prop)(r:St->Prop),kz T (CN P) c true G n e r->Tri P c G (K3 n e r):=fun c G n e r h=>by
  rw[ye,yd]at h;exact⟨fun c0 a w Q hr hq=>zy hT hmx c true ⟨qW,.inl rfl⟩ c0 _ _ _ a w (fun _=>rfl) hr h hq⟩
 intro c
 induction c with
 |skip=>intro G n e r h;exact hw .skip G n e r h
 |region id ops draw=>
  intro G n e r h;have h:zlt P T sp id ops draw G n e r:=h;unfold zlt at h;split at h
  .exact zmz h fun ex U hk=>by
    cases ex with
    |normal=>exact hk
    | _=>exact hk.elim
  .exact hw (.region id ops draw) G n e r h
 |seq a b iha ihb=>
  intro G n e r h;exact zys (iha G (fun G=>zp4 P T sp b G n e r) e r h) fun U hτ=>ihb U n e r hτ
 |cond c a b iha ihb=>
  intro G n e r h;have h:zze c a b (zp4 P T sp a) (zp4 P T sp b) G n e r:=h;unfold zze at h;refine⟨fun c0 ac w Q hr hq=>?_⟩;obtain⟨_,_,_,_,_,_,hrs⟩:=hr.own;have hb:=zc hrs c;split at h
  .rename_i t htt;rw[htt]at hb;simp only[R]at hb;refine wpIn_cond hb ?_
   cases t with
   |true=>exact(iha G n e r h).run c0 ac w Q hr hq
   |false=>exact(ihb G n e r h).run c0 ac w Q hr hq
  .rename_i p q htt;rw[htt]at hb;simp only[R]at hb;obtain⟨t,hb,h1,h2⟩:=hb;refine wpIn_cond hb ?_
   cases t with
   |true=>exact(iha G n e r (h.1 (h1 rfl))).run c0 ac w Q hr hq
   |false=>exact(ihb G n e r (h.2 (h2 rfl))).run c0 ac w Q hr hq
  .exact h.elim
 |block id c ih=>
  intro G n e r h;exact zqq (ih G n _ r h)
 |loop c ih=>
  intro G n e r h;have h:zzd T c (zp4 P T sp c) G n e r:=h;unfold zzd at h;obtain⟨X,I,us,hu,μ,x₀,h0,hin,zhm⟩:=h;simp only[ziy]at hin zhm;rw[zbu]at hin;have hr0:=fun x hx=>(zbu _ _ _ _ _ _).1 (zhm x hx)
  refine zuy (fun y=>gen (jg c) (za T c) (us y) (hu y) G) I μ x₀ h0 hin (fun x hx=>(hr0 x hx).1) fun y hy=>?_
  refine zmz (ih _ _ e r (hr0 y hy).2) fun ex U hk=>?_
  cases ex with
  |normal=>
   obtain⟨y',hy',hlt,hle⟩:=hk;rw[zbu]at hle;exact⟨y',hy',hlt,hle⟩
  |exit i=>exact hk
  |ret=>exact hk
  | _=>exact hk.elim
 |exit id=>intro G n e r h;exact hw (.exit id) G n e r h
 |ret=>intro G n e r h;exact hw .ret G n e r h
 |rangeFunc f ps a b _ _=>intro G n e r h;exact h.elim
 |scope b _=>intro G n e r h;exact h.elim
 |label l=>intro G n e r h;exact h.elim
 |goto l=>intro G n e r h;exact h.elim
 |refuse w=>intro G n e r h;exact h.elim
theorem xf(hT:TabOK P T)(hmx:P.follows .mixedOrders =true)(sp:List Nat){res:List ResultVar}{ex:List Nat}{r:AV}{H':Hp}{c:Code}{sl:List AV}{hp:Hp}
 (h:zgq sl fun sl=>zla hp fun hp=>zp4 P T sp c ⟨sl,hp⟩ (fun G=>zdp T res ex r H' G) (fun _ _=>False) (fun G=>zdp T res ex r H' G)):SemOK P T res ex r H' c ⟨sl,hp⟩:=by
 rw[qk,wl]at h;have:=zk0 hT hmx sp c _ _ _ _ h;rw[zxz]at this;exact⟨fun c0 a w Q hr hq=>this.run c0 a w Q hr hq⟩
end
theorem zm3{P:Program}{w:World}{a b:Value}(h:wB 10000 a b=true):(wn a b).run P w=.ok b w:=by
 unfold wn;rw[Z4 h,w7]
theorem zf8{P:Program}{k:IntKind}(x:Int):∀(ks:List Int)(es:List MapEntry)(i:Nat),es.map (·.key)=ks.map (zaw .int)->w9 (.int k) (zaw .int x) es i=some (zf9 .int x ks es i)
 | [],[],_,_=>rfl
 | [],_::_,_,h=>by simp at h
 | _::_,[],_,h=>by simp at h
 |y::ks,e::es,i,h=>by
  simp only[qH,List.cons.injEq]at h;simp only[w9,h.1,zaw,wC,zf9,zn0,if_true];cases x==y
  .simp only[cond_false];exact zf8 (P:=P) x ks es (i+1) h.2
  .rfl
theorem zs1{P:Program}{t:TypeId}{k:IntKind}(hu:P.underlying t=some (.int k)):KeyOK P t .int where
 kind:=.inr (.inl rfl)
 chk w b x:=by
  show(we b (9999+1) t (zaw .int x)).run P w=_;unfold we;simp only[w5,zac hu,qX,zaw,w7]
 fnd w x ks es h:=by simp only[wi,w5,zac hu,qX,zf8 (P:=P) x ks es 0 h,w7]
 stays w x y h:=by
  have:x=y:=by simpa[zn0]using h
  subst this;refine zm3 ?_;show(IntKind.i64==IntKind.i64&&x==x)=true;simp
def opZ:List AV:= [.int .i64 0,.int .i64 0,.int .i64 0,.int .i64 0,.int .i64 0,.int .i64 0]
theorem zma(o:TOp):zaw .op o=.agg #[.int .i64 o.k,.int .i64 o.a,.int .i64 o.b,.int .i64 o.n,.int .i64 o.c.n,.int .i64 o.c.d]:=rfl
theorem zvm{P:Program}{t:TypeId}(heq:zw1 P t opZ)(x y:TOp)(w:World):(Op.equal t (zaw .op x) (zaw .op y)).run P w=.ok (x==y) w:=by
 obtain⟨r,h1,h2⟩:=heq.2 (Elt.op.cells x) (Elt.op.cells y) (fun r=>r=(x==y)) ⟨fun _ _=>False,fun _=>none,fun _=>none⟩ #[.int .i64 x.k,.int .i64 x.a,.int .i64 x.b,.int .i64 x.n,.int .i64 x.c.n,.int .i64 x.c.d]
  #[.int .i64 y.k,.int .i64 y.a,.int .i64 y.b,.int .i64 y.n,.int .i64 y.c.n,.int .i64 y.c.d] (by
    simp only[opZ,Elt.cells,eqZ];obtain⟨k,a,b,n,⟨c,d⟩⟩:=x;obtain⟨k',a',b',n',⟨c',d'⟩⟩:=y;rw[Bool.eq_iff_iff];simp) ⟨rfl,rfl,rfl,rfl,rfl,rfl,trivial⟩ ⟨rfl,rfl,rfl,rfl,rfl,rfl,trivial⟩
 rw[zma,zma,h2 w,h1]
theorem zdh{P:Program}{t:TypeId}(heq:zw1 P t opZ)(x:TOp)(w:World):∀(ks:List TOp)(es:List MapEntry)(i:Nat),es.map (·.key)=ks.map (zaw .op)->(Instr.findAsking t (zaw .op x) es i).run P w=.ok (zf9 .op x ks es i) w
 | [],[],_,_=>rfl
 | [],_::_,_,h=>by simp at h
 | _::_,[],_,h=>by simp at h
 |y::ks,e::es,i,h=>by
  simp only[qH,List.cons.injEq]at h;simp only[Instr.findAsking,w5,h.1,zvm heq,qX,zf9,zn0];cases x==y
  .simp only[cond_false,q2,if_false];exact zdh heq x w ks es (i+1) h.2
  .simp only[cond_true,if_true,w7]
theorem zvz{P:Program}{t:TypeId}{F:Array Field}(hu:P.underlying t=some (.struct F))(heq:zw1 P t opZ)(hc:∀(w:World)(b:Bool)(x:TOp),(we b 10000 t (zaw .op x)).run P w=.ok () w):KeyOK P t .op where
 kind:=.inr (.inr rfl)
 chk:=hc
 fnd w x ks es h:=by
  have hn:∀(es:List MapEntry),w9 (.struct F) (zaw .op x) es 0=none\/es= []:=fun es=>by
   cases es with
   |nil=>exact .inr rfl
   |cons e es=>left;simp[w9,wC]
  rcases hn es with hn|rfl
  .simp only[wi,w5,zac hu,qX,hn];exact zdh heq x w ks es 0 h
  .cases ks with
   |nil=>simp only[wi,w5,zac hu,qX];rfl
   |cons _ _=>simp at h
 stays w x y h:=by
  have:x=y:=by simpa[zn0]using h
  subst this;refine zm3 ?_;simp[zma,wB]
def zv0(P:Program)(ko ki:Nat)(T:List (Nat×TI)):List (Nat×TI)->Bool
 | []=>true
 |(_,i)::r=>(!q5 i.cls 9||((match P.underlying i.e with
  |some .string =>true
  | _=>false)&&T.all fun x=> !q5 x.1 i.e||(match x.2.k with
    |some .str =>true
    |none=>true
    | _=>false))||(q5 i.e ko&&T.all fun x=> !q5 x.1 i.e||(match x.2.k with
    |some .op =>true
    |none=>true
    | _=>false))||(q5 i.e ki&&T.all fun x=> !q5 x.1 i.e||(match x.2.k with
    |some .int =>true
    |none=>true
    | _=>false)))&&zv0 P ko ki T r
theorem zny{P:Program}{ko ki:Nat}(ho:KeyOK P ko .op)(hi:KeyOK P ki .int){T:List (Nat×TI)}:∀ {L:List (Nat×TI)},zv0 P ko ki T L=true->∀t i,(t,i)∈L->i.cls=9->∀j kk,(i.e,j)∈T->j.k=some kk->KeyOK P i.e kk
 | [],_,_,_,h,_,_,_,_,_=>by simp at h
 |(u,x)::r,h,t,i,hm,hc,j,kk,hj,hk=>by
  simp only[zv0,q1]at h;rcases q3.1 hm with e|hm
  .cases e
   have h1:=h.1;rw[hc]at h1;simp only[q9,qL,q1,qN]at h1;rcases h1 with ((h1|⟨h1,h2⟩)|⟨h1,h2⟩)|⟨h1,h2⟩
   .exact absurd h1 OA
   .rcases h2 _ hj with h3|h3
    .rw[(zb _ _).2 rfl]at h3;cases h3
    .simp only[hk]at h3;have:kk=.str :=by cases kk<;>simp_all
     subst this;split at h1
     .rename_i hu;exact zkc hu
     .cases h1
   .rcases h2 _ hj with h3|h3
    .rw[(zb _ _).2 rfl]at h3;cases h3
    .simp only[hk]at h3;have:kk=.op :=by cases kk<;>simp_all
     subst this;rw[(zb _ _).1 h1];exact ho
   .rcases h2 _ hj with h3|h3
    .rw[(zb _ _).2 rfl]at h3;cases h3
    .simp only[hk]at h3;have:kk=.int :=by cases kk<;>simp_all
     subst this;rw[(zb _ _).1 h1];exact hi
  .exact zny ho hi h.2 t i hm hc j kk hj hk
theorem zqw{P:Program}{T:Tab}{ko ki:Nat}(ho:KeyOK P ko .op)(hi:KeyOK P ki .int)(h:qcl P T.ty=true)(hk:zv0 P ko ki T.ty T.ty=true):TabOK P T:=⟨zlh h,zny ho hi hk⟩
def OpT(P:Program)(o:Oper)(G σ':St):Prop:=o.guard=none/\∀(c0:Ctx)(a:Act)(w:World)(Q:Exit->Act->World->Prop),Rel c0 G a w->o.wpIn qW 0 P a w (Rel c0 σ') Q
def depB(ops:Array Oper):Bool:=(qS ops.size).all fun i=>match ops[i]? with
 |some o=>o.after.all fun e=> !w8 .any e||qV e.on i
 |none=>true
def setF(L:Nat->Bool)(i:Nat):Nat->Bool:=fun j=>bif q5 j i then true else L j
section
variable {P:Program} {T:Tab}
theorem yo(hT:TabOK P T){o:Oper}{G σ':St}(hg:o.guard=none)(h:zmj T (CN P) o G fun U=>U=σ'):OpT P o G σ':=by
 refine⟨hg,fun c0 a w Q hr=>?_⟩;obtain⟨r,bs,h1,h2⟩:=zck (F:=⟨qW,.inl rfl⟩) hT hr h;rw[h1]at h2;exact h2 Q
def qeq(hp:Hp)(I B:List Nat)(bs':List Blk)(r:AV):Bool:=
 xw I&&ltC I&&(zpt I||qd8 I)&&okB B&&zgt I (keys hp)&&xr B (zcf I hp)&&xo I bs'&&zgt r.ids I&&zgt (zas (zz I bs')) I&&jk bs'
theorem zsa{o:Oper}{cl:Call}{f:Operand}{G σ':St}(hg:o.guard=none)(ho:o.op=.call cl)(hcl:cl.callee=.value f){g:Nat}{I B:List Nat}{bs':List Blk}{r:AV}(hf:zg G.sl f=.fn g [])
 (hok:qeq G.hp I B bs' r=true) (hno:∀i∈B,i∉qf G.sl) (hfn:zwz P g B (zz I (zw G.hp I)) (um (zg G.sl) cl.args.toList) r (zz I bs')) (he:nxt o I G r bs'=σ'):OpT P o G σ':=by
 refine⟨hg,fun c0 a w Q hr=>?_⟩;have hok':qer G.sl G.hp I B bs' r=true:=by
  simp only[qeq,q1]at hok;obtain⟨⟨⟨⟨⟨⟨⟨⟨⟨h1,h2⟩,h3⟩,h4⟩,h5⟩,h7⟩,h8⟩,h9⟩,h10⟩,h11⟩:=hok;have h6:xr B (qf G.sl)=true:=(qo _ _).2 hno;simp only[qer,h1,h2,h3,h4,h5,h6,h7,h8,h9,h10,h11,Bool.and_self]
 have:=zgg hr ho hcl hf hok' hfn Q;rw[he]at this;exact this
theorem OpT.sound{ops:Array Oper}{Q:Exit->Act->World->Prop}{i:Nat}{o:Oper}{G σ':St}(hi:ops[i]? =some o)(h:OpT P o G σ'){c0:Ctx}{a:Act}{w:World}(hr:Rel c0 G a w){K:Act->World->Prop}(hK:∀a w,Rel c0 σ' a w->K a w):
 wpOpIn qW 0 P ops Q i K a w:=by
 unfold wpOpIn;simp only[hi];rcases kp hr (ops:=ops) (run:=fun _=>True) (skip:=fun _=>False) (o:=o) (by unfold zat;rw[h.1];trivial)with ⟨hw,_⟩|⟨_,hk⟩
 .rw[Z4 hw];exact Oper.wpIn_mono hK (h.2 c0 a w Q hr)
 .exact hk.elim
theorem zkx{ops:Array Oper}(h:depB ops=true){i:Nat}{o:Oper}(ho:ops[i]? =some o){e:Edge}(he:e∈o.after)(hb:w8 .any e=true):e.on<i:=by
 unfold depB at h;rw[qN]at h;have hi:=(qA.1 ho).1;have h1:=h i (qT.2 hi);rw[ho]at h1;simp only[Array.all_eq_true_iff_forall_mem]at h1;have h2:=h1 e he;simp only[q9,qL,hb,Bool.true_eq_false,false_or]at h2;rw[qR]at h2;exact h2
def qem(listed:Array Bool)(n:Nat):Nat:=(qS n).countP fun i=> !listed.getD i true
theorem zoq{listed:Array Bool}{n i:Nat}(hi:i<n)(hu:listed.getD i true=false):qem (listed.setIfInBounds i true) n<qem listed n:=by
 unfold qem;have hle:∀l:List Nat,(l.countP fun j=> !(listed.setIfInBounds i true).getD j true)<=l.countP fun j=> !listed.getD j true:=fun l=>by
  refine List.countP_mono_left fun j _ hj=>?_
  by_cases hij:i=j
  .subst hij;simp[hu]
  .rwa [getD_set_ne true hij]at hj
 have hmem:i∈qS n:=qT.2 hi;obtain⟨s,t,hst⟩:=List.append_of_mem hmem;rw[hst,qK,qK,qO,qO];have h1:=hle s;have h2:=hle t;have h3:(listed.setIfInBounds i true).getD i true=true:=by
  rcases qD i listed.size with h|h
  .simp[h]
  .simp[q7 h]
 simp only[h3,hu,Bool.not_true,Bool.not_false,if_true,q2,if_false];omega
theorem zp9{ops:Array Oper}(hdep:depB ops=true){listed:Array Bool}(hr:wD .any ops listed= [])(hs:listed.size=ops.size):∀i,listed.getD i true=true:=by
 intro i
 induction i using Nat.strongRecOn with
 | _ i ih=>
   cases h:listed.getD i true with
   |true=>rfl
   |false=>
    exfalso;have hi:i<listed.size:=by
     rcases qD i listed.size with h'|h'
     .exact h'
     .simp[q7 h']at h
    have ho:ops[i]? =some ops[i]:=Array.getElem?_eq_getElem O;have:i∈wD .any ops listed:=mem_ready.2 ⟨h,_,ho,fun e he hb=>by
     have h1:=zkx hdep ho he hb;have h2:=ih e.on h1;have h3:e.on<listed.size:=O;simpa[h3]using h2⟩
    rw[hr]at this;cases this
theorem zqp(hm:P.follows .mixedOrders =true){id:Nat}{ops:Array Oper}{G:St}{n:St->Prop}{e:Nat->St->Prop}{r:St->Prop}(S:(Nat->Bool)->St)(hdep:depB ops=true)
 (h0:leS G (S fun i=>q4 ops.size i)) (hfr:xr (zcg (S fun i=>q4 ops.size i).hp) (S fun i=>q4 ops.size i).ids =true)
 (step:∀(L:Nat->Bool)(i:Nat)(o:Oper),(∀j oj,ops[j]? =some oj->L j=true->∀e∈oj.after,w8 .any e=true->L e.on=true)->ops[i]? =some o->L i=false->
   (∀e∈o.after,w8 .any e=true->L e.on=true)->OpT P o (S L) (S (setF L i)))
 (hend:n (S fun _=>true)):Tri P (.region id ops true) G (K3 n e r):=by
 refine⟨fun c0 a w Q hr hq=>wpIn_region_any hm ?_⟩;have main:∀(fuel:Nat)(listed:Array Bool)(a:Act)(w:World),listed.size=ops.size->qem listed ops.size<=fuel->
  (∀j oj,ops[j]? =some oj->listed.getD j true=true->∀e∈oj.after,w8 .any e=true->listed.getD e.on true=true)->
  Rel c0 (S fun i=>listed.getD i true) a w->wpAnyIn qW 0 P .any ops Q fuel listed a w:=by
  have hfin:∀(listed:Array Bool)(a:Act)(w:World),(∀i,listed.getD i true=true)->Rel c0 (S fun i=>listed.getD i true) a w->Q .normal a w:=fun listed a w h hr=>by
   have:(fun i=>listed.getD i true)=fun _=>true:=funext h
   rw[this]at hr;exact hq .normal _ a w hr hend
  intro fuel
  induction fuel with
  |zero=>
   intro listed a w hs hc hcl hr;have hall:∀i,listed.getD i true=true:=fun i=>by
    cases h:listed.getD i true with
    |true=>rfl
    |false=>
     have hi:i<listed.size:=by
      rcases qD i listed.size with h'|h'
      .exact h'
      .simp[q7 h']at h
     have:=zoq (n:=ops.size) O h;omega
   refine⟨?_,hfin listed a w hall hr⟩;refine List.eq_nil_iff_forall_not_mem.2 fun j hj=>?_
   have:=(mem_ready.1 hj).1;rw[hall j]at this;cases this
  |succ fuel ih=>
   intro listed a w hs hc hcl hr;refine⟨fun h=>hfin listed a w (zp9 hdep h hs) hr,fun i hi=>?_⟩;obtain⟨hu,o,ho,hdeps⟩:=mem_ready.1 hi;have hio:=(qA.1 ho).1;have hd:∀e∈o.after,w8 .any e=true->listed.getD e.on true=true:=fun e he hb=>by
    have h1:=hdeps e he hb;have h2:=zkx hdep ho he hb;have h3:e.on<listed.size:=O;simpa[h3]using h1
   refine OpT.sound ho (step (fun i=>listed.getD i true) i o hcl ho hu hd) hr fun a' w' hr'=>ih _ a' w' (by simpa using hs) ?_ ?_ ?_
   .have:=zoq (n:=ops.size) hio hu;omega
   .intro j oj hoj hj e he hb;by_cases hij:i=e.on
    .rw[<-hij];have:i<listed.size:=O;simp[this]
    .rw[getD_set_ne true hij];by_cases hij2:i=j
     .subst hij2;rw[ho]at hoj;cases hoj
      exact hd e he hb
     .rw[getD_set_ne true hij2]at hj;exact hcl j oj hoj hj e he hb
   .have:(fun j=>(listed.setIfInBounds i true).getD j true)=setF (fun i=>listed.getD i true) i:=by
     funext j
     unfold setF
     cases h:q5 j i with
     |true=>
      have:=(zb _ _).1 h;subst this;have:j<listed.size:=O;simp[this]
     |false=>
      have:=(zo _ _).1 h;simp only[cond_false];exact getD_set_ne true (Ne.symm this)
    rw[this];exact hr'
 refine main ops.size _ a _ OC ?_ ?_ ?_
 .unfold qem;exact qB List.countP_le_length OC
 .intro j oj hoj hj;have hlt:=(qA.1 hoj).1;simp[hlt]at hj
 .have:(fun i=>(qC ops.size false).getD i true)=fun i=>q4 ops.size i:=by
   funext i
   rcases qD i ops.size with h|h
   .have:q4 ops.size i=false:=by
     cases e:q4 ops.size i with
     |true=>have:=q0 e;omega
     |false=>rfl
    simp[h,this]
   .have:q4 ops.size i=true:=Nat.ble_eq_true_of_le h;simp[q7 (xs:=qC ops.size false) (i:=i) (by simpa using h),this]
  rw[this];exact(hr.weaken h0 hfr).drawn _
theorem Rel.hpEq{c:Ctx}{sl:List AV}{hp hp':Hp}{a:Act}{w:World}(h:Rel c ⟨sl,hp⟩ a w)(he:∀i,hget hp' i=hget hp i):Rel c ⟨sl,hp'⟩ a w:=by
 obtain⟨M,pt,ow,S,hg,hs,hd⟩:=h;refine⟨M,pt,ow,S,?_,fun pt' ow' hag=>?_,hd⟩
 .exact {hg with
   dpt:=fun i b hb=>by
    show(hget hp' i).isPt =true;rw[he];exact hg.dpt i b hb
   dow:=fun i b hb=>by
    show(hget hp' i).isBuf =true;rw[he];exact hg.dow i b hb
   blk:=fun i=>by
    show uu w (zj w M) pt ow S i (hget hp' i);rw[he];exact hg.blk i}
 .have hag':Agr hp pt pt' ow ow':=fun i hi=>hag i (by
   show(hget hp' i).isFree =false;rw[he];exact hi)
  obtain⟨h1,h2⟩:=hs pt' ow' hag';refine⟨h1,fun i l b cs Ty hl hb hcs=>h2 i l b cs Ty ?_ hb hcs⟩;have hl:hget hp' i=.cells l:=hl;rw[he]at hl;exact hl
def zqy(hp:Hp)(i j:Nat):Bool:=zqx hp i j&&zco i (keys hp)&&zco j (keys hp)
def swp2(i j:Nat)(G:St):St:=⟨yr (sw [(i,j)]) G.sl,zfk (zc5 (sw [(i,j)]) G.hp) G.hp⟩
theorem zkb(f:Nat->Nat):∀(h:Hp),keys (zc5 f h)=(keys h).map f
 | []=>rfl
 |(i,b)::r=>by simp[zc5,keys,zkb f r]
theorem zka(g:Hp):∀(h:Hp),keys (zfk g h)=keys h
 | []=>rfl
 |(i,b)::r=>by simp[zfk,keys,zka g r]
theorem Rel.swap2{c:Ctx}{G:St}{a:Act}{w:World}(h:Rel c G a w){i j:Nat}(hok:zqy G.hp i j=true):Rel c (swp2 i j G) a w:=by
 obtain⟨sl,hp⟩:=G;simp only[zqy,q1]at hok;obtain⟨⟨h1,h2⟩,h3⟩:=hok;have hs1:=h1;simp only[zqx,q1]at hs1;have hff:∀x,sw [(i,j)] (sw [(i,j)] x)=x:=fun x=>zqz x hs1.1.1.1.1
 have h2:=(wh _ _).1 h2;have h3:=(wh _ _).1 h3;refine(h.swap h1).hpEq fun x=>?_
 by_cases hk:wp hp x
 .exact zfz _ hk
 .have e1:∀(H:Hp),¬wp H x->hget H x=.dead :=fun H hn=>by
   cases e:hget H x<;>first|rfl|exact absurd (zf (by rw[e];simp)) hn
  have hkx:x∉keys hp:=fun hx=>hk (yt.1 hx)
  refine(e1 _ fun hx=>?_).trans (e1 _ fun hx=>?_).symm
  .have:=yt.2 hx;rw[zka]at this;exact hkx this
  .have:=yt.2 hx;rw[zkb]at this;obtain⟨y,hy,hyx⟩:=qU.1 this;have hy2:y=sw [(i,j)] x:=by rw[<-hyx,hff]
   have hsw:sw [(i,j)] x=if x=i then j else if x=j then i else x:=by
    simp only[sw]
    cases e1:q5 x i with
    |true=>rw[Z4 ((zb _ _).1 e1)]
    |false=>
     rw[Z5 ((zo _ _).1 e1)]
     cases e2:q5 x j with
     |true=>rw[Z4 ((zb _ _).1 e2)]
     |false=>rw[Z5 ((zo _ _).1 e2)]
   rw[hsw]at hy2;split at hy2
   .rename_i e;rw[e]at hkx;exact hkx h2
   .split at hy2
    .rename_i e;rw[e]at hkx;exact hkx h3
    .rw[hy2]at hy;exact hkx hy
theorem zct{x:Code}{G:St}{n:St->Prop}{e:Nat->St->Prop}{r:St->Prop}(i j:Nat)(h:Tri P x G (K3 (fun U=>zqy U.hp i j=true/\n (swp2 i j U)) e r)):Tri P x G (K3 n e r):=by
 refine⟨fun c0 a w Q hr hq=>h.run c0 a w Q hr fun ex U a w hr hk=>?_⟩
 cases ex with
 |normal=>exact hq .normal _ a w (hr.swap2 hk.1) hk.2
 |exit i=>exact hq _ _ _ _ hr hk
 |ret=>exact hq _ _ _ _ hr hk
 | _=>exact hk.elim
end
theorem zb1.bool{V:jp}{u:Bool}{v:Value}(h:zb1 V .bool u v):v=.bool u:=by
 obtain⟨vs,h1,h2,h3⟩:=h
 match vs,h1 with
 | [y],_=>
   have:=h3 0 (.bool u) y rfl rfl;cases this
   exact h2
section
variable {P:Program}
end
section
variable {P:Program} {T:Tab}
end
theorem ztk{M:Nat->Prop}{pt:Nat->Option Nat}{ow:Nat->Option Value}{S:Nat->Prop}{H:Hp}{w:World}(hg:zj2 (zdj H)=true)(h:Core M pt ow S H w):Core M pt ow (fun _=>False) H w:= {
 fresh:=h.fresh,mt:=h.mt,inj:=h.inj,gm:=fun b hb=>hb.elim,gd:=fun i b _ hb=>hb,dpt:=h.dpt,dow:=h.dow
 blk:=fun i=>by
  have h1:=h.blk i;have h2:=zj1 hg i
  revert h1 h2
  generalize hget H i=b;intro h1 h2
  cases b with
  |gst J=>exact absurd rfl (h2 J)
  |free=>trivial
  |dead=>trivial
  |cells l=>exact h1
  |buf e k xs=>exact h1
  |map kk vk m=>exact h1}
theorem zp2{P:Program}{f:Nat}{H H':Hp}{A:List AV}{r:AV}(hg:zj2 (zdj H)=true)(h:zwz P f [] H A r H'):zcm P f H A r H':=by
 refine⟨h.1,fun w M pt ow S vs hcore hcont hargs=>(h.2 w M pt ow vs (ztk hg hcore) hcont hargs).mono ?_⟩;rintro e w' ⟨v,M',pt',ow',he,hc,hk,hr,hL⟩;exact⟨v,M',pt',ow',fun _=>False,he,hc,hk,hr,hL.os,hL.tape,hL.output,hL.size,fun b hb hn _=>hL.same b hb hn,hL.mm,hL.mn,fun b hb=>hb.elim,
  fun i b hb=>.inl (hL.lept i b hb),fun i x hx=>(hL.leow i x hx).elim .inl fun h=>by cases h.1⟩
