/-
  The symbolic execution by recursors: the same propositions; the kernel finds the same closures that the elaborator leaves.
-/
import Derived.Test.YtgehdbenidimlaaGreatDoorQSxX
import Derived.Test.YtgehdbenidimlaaGreatDoorQSxW
set_option linter.unusedVariables false
set_option linter.unusedSimpArgs false
namespace Go.Sx
open Go
theorem zjt: ∀(l:List Nat) (K:List Nat->Prop),zew l K=K l
 | [],K=>rfl
 |i::l,K=>by simp only[zew];rw[zjt l]
abbrev RM:=Bool->St->(Exit->St->Prop)->Prop
def oNil (σ:St) (K:St->Prop):Prop:=K σ
def qan (T:Tab) (C:Con) (ops:List Oper) (o:Oper) (_:List Oper) (ih:St->(St->Prop)->Prop) (σ:St) (K:St->Prop):Prop:=opK1 T C ops o σ fun σ=>ih σ K
noncomputable def zyf (T:Tab) (C:Con) (ops l:List Oper):St->(St->Prop)->Prop:=
 @List.rec Oper (fun _=>St->(St->Prop)->Prop) oNil (qan T C ops) l
def dNil (σ:St) (K:List FP->St->Prop):Prop:=K [] σ
def qbn (T:Tab) (C:Con) (ops:List Oper) (o:Oper) (_:List Oper) (ih:St->(List FP->St->Prop)->Prop) (σ:St) (K:List FP->St->Prop):Prop:=
 opD1 T C ops o σ fun fp σ'=>ih σ' fun fps σ''=>K (fp::fps) σ''
noncomputable def opsS (T:Tab) (C:Con) (ops l:List Oper):St->(List FP->St->Prop)->Prop:=
 @List.rec Oper (fun _=>St->(List FP->St->Prop)->Prop) dNil (qbn T C ops) l
theorem zm4 (T:Tab) (C:Con) (ops l:List Oper):zyf T C ops l=zyg T C ops l:=by
 induction l with
 |nil=>funext σ K;rfl
 |cons o l ih=>
  funext σ K
  show qan T C ops o l (zyf T C ops l) σ K=_;rw[ih];simp only[qan,zyg]
theorem qak (T:Tab) (C:Con) (ops l:List Oper):opsS T C ops l=qal T C ops l:=by
 induction l with
 |nil=>funext σ K;rfl
 |cons o l ih=>
  funext σ K
  show qbn T C ops o l (opsS T C ops l) σ K=_;rw[ih];simp only[qbn,qal]
def rSkip:RM:=fun _ σ Q=>Q .normal σ
noncomputable def zmx (T:Tab) (C:Con) (_:Nat) (ops:Array Oper) (draw:Bool):RM:=fun _ σ Q=> @Bool.rec (fun _=>Prop)
 (zyf T C ops.toList ops.toList σ fun σ=>yq (zu4 ops.toList) σ fun σ=>Q .normal σ)
 (opsS T C ops.toList ops.toList σ fun fps σ=>zw2 0 ops.toList fps=true/\Region.lexB .any ops=true/\yq (zu4 ops.toList) σ fun σ=>Q .normal σ) draw
def rSeq (_ _:Code) (iha ihb:RM):RM:=fun top σ Q=>iha top σ fun e σ=>match e with
    | .normal =>ihb top σ Q
    | .exit i=>Q (.exit i) σ
    | .ret =>Q .ret σ
    | _=>False
def zsb (c:Operand) (_ _:Code) (iha ihb:RM):RM:=fun top σ Q=>match zj σ.sl c with
    | .bool t=> @Bool.rec (fun _=>Prop) (ihb top σ Q) (iha top σ Q) t
    | .ub p q=>(p->iha top σ Q)/\(q->ihb top σ Q)
    | _=>False
def zsc (id:Nat) (_:Code) (ih:RM):RM:=fun top σ Q=>ih top σ fun e σ=>match e with
    | .normal =>Q .normal σ
    | .exit i=>match Nat.beq i id with
      |true=>Q .normal σ
      |false=>Q (.exit i) σ
    | .ret =>Q .ret σ
    | _=>False
def zr8 (T:Tab) (c:Code) (ih:RM):RM:=fun top σ Q=> ∃(X:Type) (I:X->Prop) (us:X->List (Nat×AV)) (hu:X->List (Nat×Blk)) (μ:X->Nat) (x₀:X),
 I x₀/\(zew (wv c) fun ws=>zew (zc T c) fun ds=>zo2 ws ds (us x₀) (hu x₀) σ (fun τ=>leS σ τ))/\
 ∀x,I x->zew (wv c) fun ws=>zew (zc T c) fun ds=>zo2 ws ds (us x) (hu x) σ fun τ=>zd4 (zeg τ.hp) τ.ids=true/\
  ih top τ fun e σ'=>match e with
   | .normal => ∃x',I x'/\μ x'<μ x/\zo2 ws ds (us x') (hu x') σ fun τ'=>leS σ' τ'
   | .exit i=>Q (.exit i) σ'
   | .ret =>Q .ret σ'
   | _=>False
def zkq (T:Tab) (C:Con) (f:Operand) (ps:Array Tmp) (asg body:Code) (iha ihb:RM):RM:=fun top σ Q=>match top,zj σ.sl f with
    |true,.fn g caps=> ∃(is:List Nat) (X Y:Type) (hb:X->List Blk) (live:X->Bool) (pend:X->Code) (args:Y->List AV) (next:X->Y->X) (x₀ xE:X) (r:AV) (ib:List Blk),
      qg σ.hp is=hb x₀/\live x₀=true/\rfOk T σ.hp g is caps ib=true/\zd4 (zc T asg++zc T body) (zer is)=true/\(∀x,zan (hb x)=true/\zbx is (hb x)=true)/\(∀y,qao (wb (args y))=true)/\
      (∀(l:Nat) (J:X->GJ),(∀x y,live x=true->C.cb l [(zx,.gst (J x))] (args y) (.bool (live (next x y))) [(zx,.gst (J (next x y)))])->
        C.fn g ((zx,.gst (J x₀))::vw (nub (wb caps)) (qg σ.hp (nub (wb caps)))) (.cb l::caps) r ((zx,.gst (J xE))::vw (nub (wb caps)) ib))/\
      (∀x y,live x=true->zmt ps.toList (args y) (zkb is σ.sl) fun sl=>
        iha false ⟨sl,zhj (vz (zc T asg++zc T body)) (vw (zer is) (hb x))⟩ fun e τ=>match e with
        | .normal =>ihb false τ fun e τ=>match e with
          | .normal =>live (next x y)=true/\zqd is (hb (next x y)) τ
          | .exit id=>live (next x y)=false/\pend (next x y)= .exit id/\zqd is (hb (next x y)) τ
          | .ret =>live (next x y)=false/\pend (next x y)= .ret /\zqd is (hb (next x y)) τ
          | _=>False
        | _=>False)/\
      (match σ with
        |⟨sl,hp⟩=>zav hp is (hb xE) fun hp=>zav hp (nub (wb caps)) ib fun hp=> @Bool.rec (fun _=>Prop)
          (match pend xE with
            | .exit id=>Q (.exit id) ⟨sl,hp⟩
            | .ret =>Q .ret ⟨sl,hp⟩
            | _=>False)
          (Q .normal ⟨sl,hp⟩) (live xE))
    | _,_=>False
def rExit (id:Nat):RM:=fun _ σ Q=>Q (.exit id) σ
def rRet:RM:=fun _ σ Q=>Q .ret σ
def rNo:RM:=fun _ _ _=>False
noncomputable def zaq (T:Tab) (C:Con) (c:Code):RM:=
 @Code.rec (fun _=>RM) rSkip (zmx T C) rSeq zsb zsc (zr8 T) (zkq T C) rExit (fun _ _=>rNo) (fun _=>rNo) (fun _=>rNo) rRet (fun _=>rNo) c
theorem zj4 (T:Tab) (C:Con): ∀(c:Code) (top:Bool),zaq T C c top=wq T C top c:=by
 intro c
 induction c with
 |skip=>intro top;funext σ Q;simp only[wq];rfl
 |region id ops draw=>
  intro top;funext σ Q;show zmx T C id ops draw top σ Q=_;simp only[zmx,wq,zm4,qak]
 |seq a b iha ihb=>
  intro top;funext σ Q;show rSeq a b (zaq T C a) (zaq T C b) top σ Q=_;simp only[rSeq,wq,iha,ihb];rfl
 |cond c a b iha ihb=>
  intro top;funext σ Q;show zsb c a b (zaq T C a) (zaq T C b) top σ Q=_;simp only[zsb,wq,iha,ihb];rfl
 |block id c ih=>
  intro top;funext σ Q;show zsc id c (zaq T C c) top σ Q=_;simp only[zsc,wq,ih];rfl
 |loop c ih=>
  intro top;funext σ Q;show zr8 T c (zaq T C c) top σ Q=_;simp only[zr8,wq,ih,zjt];rfl
 |rangeFunc f ps a b iha ihb=>
  intro top;funext σ Q;show zkq T C f ps a b (zaq T C a) (zaq T C b) top σ Q=_;cases top<;>simp only[zkq,wq,iha,ihb]<;>rfl
 |exit id=>intro top;funext σ Q;simp only[wq];rfl
 |scope b ih=>intro top;funext σ Q;simp only[wq];rfl
 |label l=>intro top;funext σ Q;simp only[wq];rfl
 |goto l=>intro top;funext σ Q;simp only[wq];rfl
 |ret=>intro top;funext σ Q;simp only[wq];rfl
 |refuse w=>intro top;funext σ Q;simp only[wq];rfl
end Go.Sx
