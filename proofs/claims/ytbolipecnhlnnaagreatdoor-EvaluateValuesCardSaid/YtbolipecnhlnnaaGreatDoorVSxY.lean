/- The symbolic execution by recursors: the same propositions; the kernel finds the same closures that the elaborator leaves. -/
import Derived.Test.YtbolipecnhlnnaaGreatDoorVSxW
set_option linter.all false
namespace Go.Sx
open Go
theorem zl6:∀(l:List Nat)(K:List Nat->Prop),zgi l K=K l
 | [],K=>rfl
 |i::l,K=>by simp only[zgi];rw[zl6 l]
abbrev RM:=Bool->St->(Exit->St->Prop)->Prop
def oNil(σ:St)(K:St->Prop):Prop:=K σ
def qfk(T:Tab)(C:Con)(ops:List Oper)(o:Oper)(_:List Oper)(ih:St->(St->Prop)->Prop)(σ:St)(K:St->Prop):Prop:=opK1 T C ops o σ fun σ=>ih σ K
noncomputable def qh0(T:Tab)(C:Con)(ops l:List Oper):St->(St->Prop)->Prop:=
 @List.rec Oper (fun _=>St->(St->Prop)->Prop) oNil (qfk T C ops) l
def dNil(σ:St)(K:List FP->St->Prop):Prop:=K [] σ
def qgu(T:Tab)(C:Con)(ops:List Oper)(o:Oper)(_:List Oper)(ih:St->(List FP->St->Prop)->Prop)(σ:St)(K:List FP->St->Prop):Prop:=
 opD1 T C ops o σ fun fp σ'=>ih σ' fun fps σ''=>K (fp::fps) σ''
noncomputable def opsS(T:Tab)(C:Con)(ops l:List Oper):St->(List FP->St->Prop)->Prop:=
 @List.rec Oper (fun _=>St->(List FP->St->Prop)->Prop) dNil (qgu T C ops) l
theorem zvy(T:Tab)(C:Con)(ops l:List Oper):qh0 T C ops l=qcr T C ops l:=by
 induction l with
 |nil=>funext σ K;rfl
 |cons o l ih=>
  funext σ K
  show qfk T C ops o l (qh0 T C ops l) σ K=_;rw[ih];simp only[qfk,qcr]
theorem qff(T:Tab)(C:Con)(ops l:List Oper):opsS T C ops l=qfg T C ops l:=by
 induction l with
 |nil=>funext σ K;rfl
 |cons o l ih=>
  funext σ K
  show qgu T C ops o l (opsS T C ops l) σ K=_;rw[ih];simp only[qgu,qfg]
def rSkip:RM:=fun _ σ Q=>Q .normal σ
noncomputable def zox(T:Tab)(C:Con)(_:Nat)(ops:Array Oper)(draw:Bool):RM:=fun _ σ Q=> @Bool.rec (fun _=>Prop)
 (qh0 T C ops.toList ops.toList σ fun σ=>zam (zy4 ops.toList) σ fun σ=>Q .normal σ)
 (opsS T C ops.toList ops.toList σ fun fps σ=>qa4 0 ops.toList fps=true/\Region.lexB .any ops=true/\zam (zy4 ops.toList) σ fun σ=>Q .normal σ) draw
def rSeq(_ _:Code)(iha ihb:RM):RM:=fun top σ Q=>iha top σ fun e σ=>match e with
    |.normal =>ihb top σ Q
    |.exit i=>Q (.exit i) σ
    |.ret =>Q .ret σ
    | _=>False
def zvh(c:Operand)(_ _:Code)(iha ihb:RM):RM:=fun top σ Q=>match zo σ.sl c with
    |.bool t=> @Bool.rec (fun _=>Prop) (ihb top σ Q) (iha top σ Q) t
    |.ub p q=>(p->iha top σ Q)/\(q->ihb top σ Q)
    | _=>False
def zvi(id:Nat)(_:Code)(ih:RM):RM:=fun top σ Q=>ih top σ fun e σ=>match e with
    |.normal =>Q .normal σ
    |.exit i=>match Nat.beq i id with
      |true=>Q .normal σ
      |false=>Q (.exit i) σ
    |.ret =>Q .ret σ
    | _=>False
def zvf(T:Tab)(c:Code)(ih:RM):RM:=fun top σ Q=>∃(X:Type)(I:X->Prop)(us:X->List (Nat×AV))(hu:X->List (Nat×Blk))(μ:X->Nat)(x₀:X),
 I x₀/\(zgi (jz c) fun ws=>zgi (ze T c) fun ds=>zrt ws ds (us x₀) (hu x₀) σ (fun G=>leS σ G))/\
 ∀x,I x->zgi (jz c) fun ws=>zgi (ze T c) fun ds=>zrt ws ds (us x) (hu x) σ fun G=>zd5 (zg2 G.hp) G.ids=true/\
  ih top G fun e σ'=>match e with
   |.normal =>∃x',I x'/\μ x'<μ x/\zrt ws ds (us x') (hu x') σ fun τ'=>leS σ' τ'
   |.exit i=>Q (.exit i) σ'
   |.ret =>Q .ret σ'
   | _=>False
def zm0(T:Tab)(C:Con)(f:Operand)(ps:Array Tmp)(asg body:Code)(iha ihb:RM):RM:=fun top σ Q=>match top,zo σ.sl f with
    |true,.fn g caps=>∃(is:List Nat)(X Y:Type)(hb:X->List Blk)(live:X->Bool)(pend:X->Code)(args:Y->List AV)(next:X->Y->X)(x₀ xE:X)(r:AV)(ib:List Blk),
      qi σ.hp is=hb x₀/\live x₀=true/\rfOk T σ.hp g is caps ib=true/\zd5 (ze T asg++ze T body) (zgd is)=true/\(∀x,zbi (hb x)=true/\zcf is (hb x)=true)/\(∀y,zyy (vj (args y))=true)/\
      (∀(l:Nat)(J:X->GJ),(∀x y,live x=true->C.cb l [(vu,.gst (J x))] (args y) (.bool (live (next x y))) [(vu,.gst (J (next x y)))])->
        C.fn g ((vu,.gst (J x₀))::wk (nub (vj caps)) (qi σ.hp (nub (vj caps)))) (.cb l::caps) r ((vu,.gst (J xE))::wk (nub (vj caps)) ib))/\
      (∀x y,live x=true->zgu ps.toList (args y) (zgw is σ.sl) fun sl=>
        iha false ⟨sl,zes (qz (ze T asg++ze T body)) (wk (zgd is) (hb x))⟩ fun e G=>match e with
        |.normal =>ihb false G fun e G=>match e with
          |.normal =>live (next x y)=true/\zpq is (hb (next x y)) G
          |.exit id=>live (next x y)=false/\pend (next x y)=.exit id/\zpq is (hb (next x y)) G
          |.ret =>live (next x y)=false/\pend (next x y)=.ret /\zpq is (hb (next x y)) G
          | _=>False
        | _=>False)/\
      (match σ with
        |⟨sl,hp⟩=>zbd hp is (hb xE) fun hp=>zbd hp (nub (vj caps)) ib fun hp=> @Bool.rec (fun _=>Prop)
          (match pend xE with
            |.exit id=>Q (.exit id) ⟨sl,hp⟩
            |.ret =>Q .ret ⟨sl,hp⟩
            | _=>False)
          (Q .normal ⟨sl,hp⟩) (live xE))
    | _,_=>False
def rExit(id:Nat):RM:=fun _ σ Q=>Q (.exit id) σ
def rRet:RM:=fun _ σ Q=>Q .ret σ
def rNo:RM:=fun _ _ _=>False
noncomputable def zbr(T:Tab)(C:Con)(c:Code):RM:=
 @Code.rec (fun _=>RM) rSkip (zox T C) rSeq zvh zvi (zvf T) (zm0 T C) rExit (fun _ _=>rNo) (fun _=>rNo) (fun _=>rNo) rRet (fun _=>rNo) c
theorem zdk(T:Tab)(C:Con):∀(c:Code)(top:Bool),zbr T C c top=je T C top c:=by
 intro c
 induction c with
 |skip=>intro top;funext σ Q;simp only[je];rfl
 |region id ops draw=>
  intro top;funext σ Q;show zox T C id ops draw top σ Q=_;simp only[zox,je,zvy,qff]
 |seq a b iha ihb=>
  intro top;funext σ Q;show rSeq a b (zbr T C a) (zbr T C b) top σ Q=_;simp only[rSeq,je,iha,ihb];rfl
 |cond c a b iha ihb=>
  intro top;funext σ Q;show zvh c a b (zbr T C a) (zbr T C b) top σ Q=_;simp only[zvh,je,iha,ihb];rfl
 |block id c ih=>
  intro top;funext σ Q;show zvi id c (zbr T C c) top σ Q=_;simp only[zvi,je,ih];rfl
 |loop c ih=>
  intro top;funext σ Q;show zvf T c (zbr T C c) top σ Q=_;simp only[zvf,je,ih,zl6];rfl
 |rangeFunc f ps a b iha ihb=>
  intro top;funext σ Q;show zm0 T C f ps a b (zbr T C a) (zbr T C b) top σ Q=_;cases top<;>simp only[zm0,je,iha,ihb]<;>rfl
 |exit id=>intro top;funext σ Q;simp only[je];rfl
 |scope b ih=>intro top;funext σ Q;simp only[je];rfl
 |label l=>intro top;funext σ Q;simp only[je];rfl
 |goto l=>intro top;funext σ Q;simp only[je];rfl
 |ret=>intro top;funext σ Q;simp only[je];rfl
 |refuse w=>intro top;funext σ Q;simp only[je];rfl
theorem KZ0{P:Prop}(h:P:=by(conv=>whnf);refine And.intro ?_ ?_;repeat' first|refine lc ?_ ?_|exact la0|exact lr rfl|exact ln0|refine lh1 ?_ ?_|exact lh0|exact bf0|exact bd0|refine bc0 ?_|exact bm0 rfl|exact bb0 rfl|exact bg0 rfl|exact li0 rfl|refine lg0 ?_|refine lt0 ?_|exact trivial|exact⟨rfl,rfl⟩|exact ai0 O|exact ai0 (by rw[wI O];omega)|exact ai0 (by rw[wI OD];simp only;omega)|exact bb0 (by assumption)|exact bb0 (Eq.symm (by assumption))|exact ai0 (by rw[wI O])|exact ai0 (by assumption)):P:=h
theorem KXY{P:Prop}(h:P:=by first|exact la0|exact lr rfl|exact ln0|exact lh0|exact bf0|exact bd0|exact bm0 rfl|exact bg0 rfl|exact li0 rfl):P:=h
theorem KXZ{P:Prop}(h:P:=by first|exact la0|exact lr rfl|exact ln0|exact lh0|exact bf0|exact bd0|exact bm0 rfl|exact bb0 rfl|exact bg0 rfl|exact li0 rfl):P:=h
