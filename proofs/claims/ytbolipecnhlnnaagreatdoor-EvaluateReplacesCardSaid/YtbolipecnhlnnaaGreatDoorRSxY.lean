/-
  The symbolic execution by recursors: the same propositions; the kernel finds the same closures that the elaborator leaves.
-/
import Derived.Test.YtbolipecnhlnnaaGreatDoorRSxX
import Derived.Test.YtbolipecnhlnnaaGreatDoorRSxW
set_option linter.unusedVariables false
set_option linter.unusedSimpArgs false
namespace Go.Sx
open Go
theorem zj7: ∀(l:List Nat) (K:List Nat->Prop),ze3 l K=K l
 | [],K=>rfl
 |i::l,K=>by simp only[ze3];rw[zj7 l]
abbrev RM:=Bool->St->(Exit->St->Prop)->Prop
def oNil (σ:St) (K:St->Prop):Prop:=K σ
def qbq (T:Tab) (C:Con) (ops:List Oper) (o:Oper) (_:List Oper) (ih:St->(St->Prop)->Prop) (σ:St) (K:St->Prop):Prop:=opK1 T C ops o σ fun σ=>ih σ K
noncomputable def opsR (T:Tab) (C:Con) (ops l:List Oper):St->(St->Prop)->Prop:=
 @List.rec Oper (fun _=>St->(St->Prop)->Prop) oNil (qbq T C ops) l
def dNil (σ:St) (K:List FP->St->Prop):Prop:=K [] σ
def qct (T:Tab) (C:Con) (ops:List Oper) (o:Oper) (_:List Oper) (ih:St->(List FP->St->Prop)->Prop) (σ:St) (K:List FP->St->Prop):Prop:=
 opD1 T C ops o σ fun fp σ'=>ih σ' fun fps σ''=>K (fp::fps) σ''
noncomputable def opsS (T:Tab) (C:Con) (ops l:List Oper):St->(List FP->St->Prop)->Prop:=
 @List.rec Oper (fun _=>St->(List FP->St->Prop)->Prop) dNil (qct T C ops) l
theorem qbl (T:Tab) (C:Con) (ops l:List Oper):opsR T C ops l=qdr T C ops l:=by
 induction l with
 |nil=>funext σ K;rfl
 |cons o l ih=>
  funext σ K
  show qbq T C ops o l (opsR T C ops l) σ K=_;rw[ih];simp only[qbq,qdr]
theorem qbk (T:Tab) (C:Con) (ops l:List Oper):opsS T C ops l=qbm T C ops l:=by
 induction l with
 |nil=>funext σ K;rfl
 |cons o l ih=>
  funext σ K
  show qct T C ops o l (opsS T C ops l) σ K=_;rw[ih];simp only[qct,qbm]
def rSkip:RM:=fun _ σ Q=>Q .normal σ
noncomputable def zmy (T:Tab) (C:Con) (_:Nat) (ops:Array Oper) (draw:Bool):RM:=fun _ σ Q=> @Bool.rec (fun _=>Prop)
 (opsR T C ops.toList ops.toList σ fun σ=>xd (zwa ops.toList) σ fun σ=>Q .normal σ)
 (opsS T C ops.toList ops.toList σ fun fps σ=>zxt 0 ops.toList fps=true/\Region.lexB .any ops=true/\xd (zwa ops.toList) σ fun σ=>Q .normal σ) draw
def rSeq (_ _:Code) (iha ihb:RM):RM:=fun top σ Q=>iha top σ fun e σ=>match e with
    | .normal =>ihb top σ Q
    | .exit i=>Q (.exit i) σ
    | .ret =>Q .ret σ
    | _=>False
def zs8 (c:Operand) (_ _:Code) (iha ihb:RM):RM:=fun top σ Q=>match zj σ.sl c with
    | .bool t=> @Bool.rec (fun _=>Prop) (ihb top σ Q) (iha top σ Q) t
    | .ub p q=>(p->iha top σ Q)/\(q->ihb top σ Q)
    | _=>False
def zs9 (id:Nat) (_:Code) (ih:RM):RM:=fun top σ Q=>ih top σ fun e σ=>match e with
    | .normal =>Q .normal σ
    | .exit i=>match Nat.beq i id with
      |true=>Q .normal σ
      |false=>Q (.exit i) σ
    | .ret =>Q .ret σ
    | _=>False
def zs6 (T:Tab) (c:Code) (ih:RM):RM:=fun top σ Q=> ∃(X:Type) (I:X->Prop) (us:X->List (Nat×AV)) (hu:X->List (Nat×Blk)) (μ:X->Nat) (x₀:X),
 I x₀/\(ze3 (ji c) fun ws=>ze3 (zc T c) fun ds=>zpj ws ds (us x₀) (hu x₀) σ (fun τ=>leS σ τ))/\
 ∀x,I x->ze3 (ji c) fun ws=>ze3 (zc T c) fun ds=>zpj ws ds (us x) (hu x) σ fun τ=>zcw (zfk τ.hp) τ.ids=true/\
  ih top τ fun e σ'=>match e with
   | .normal => ∃x',I x'/\μ x'<μ x/\zpj ws ds (us x') (hu x') σ fun τ'=>leS σ' τ'
   | .exit i=>Q (.exit i) σ'
   | .ret =>Q .ret σ'
   | _=>False
def zkz (T:Tab) (C:Con) (f:Operand) (ps:Array Tmp) (asg body:Code) (iha ihb:RM):RM:=fun top σ Q=>match top,zj σ.sl f with
    |true,.fn g caps=> ∃(is:List Nat) (X Y:Type) (hb:X->List Blk) (live:X->Bool) (pend:X->Code) (args:Y->List AV) (next:X->Y->X) (x₀ xE:X) (r:AV) (ib:List Blk),
      zw σ.hp is=hb x₀/\live x₀=true/\rfOk T σ.hp g is caps ib=true/\zcw (zc T asg++zc T body) (zey is)=true/\(∀x,zaq (hb x)=true/\zbj is (hb x)=true)/\(∀y,zv5 (qs (args y))=true)/\
      (∀(l:Nat) (J:X->GJ),(∀x y,live x=true->C.cb l [(qu,.gst (J x))] (args y) (.bool (live (next x y))) [(qu,.gst (J (next x y)))])->
        C.fn g ((qu,.gst (J x₀))::vg (nub (qs caps)) (zw σ.hp (nub (qs caps)))) (.cb l::caps) r ((qu,.gst (J xE))::vg (nub (qs caps)) ib))/\
      (∀x y,live x=true->zfc ps.toList (args y) (zfg is σ.sl) fun sl=>
        iha false ⟨sl,zdf (qj (zc T asg++zc T body)) (vg (zey is) (hb x))⟩ fun e τ=>match e with
        | .normal =>ihb false τ fun e τ=>match e with
          | .normal =>live (next x y)=true/\zno is (hb (next x y)) τ
          | .exit id=>live (next x y)=false/\pend (next x y)= .exit id/\zno is (hb (next x y)) τ
          | .ret =>live (next x y)=false/\pend (next x y)= .ret /\zno is (hb (next x y)) τ
          | _=>False
        | _=>False)/\
      (match σ with
        |⟨sl,hp⟩=>za1 hp is (hb xE) fun hp=>za1 hp (nub (qs caps)) ib fun hp=> @Bool.rec (fun _=>Prop)
          (match pend xE with
            | .exit id=>Q (.exit id) ⟨sl,hp⟩
            | .ret =>Q .ret ⟨sl,hp⟩
            | _=>False)
          (Q .normal ⟨sl,hp⟩) (live xE))
    | _,_=>False
def rExit (id:Nat):RM:=fun _ σ Q=>Q (.exit id) σ
def rRet:RM:=fun _ σ Q=>Q .ret σ
def rNo:RM:=fun _ _ _=>False
noncomputable def zax (T:Tab) (C:Con) (c:Code):RM:=
 @Code.rec (fun _=>RM) rSkip (zmy T C) rSeq zs8 zs9 (zs6 T) (zkz T C) rExit (fun _ _=>rNo) (fun _=>rNo) (fun _=>rNo) rRet (fun _=>rNo) c
theorem zcg (T:Tab) (C:Con): ∀(c:Code) (top:Bool),zax T C c top=wv T C top c:=by
 intro c
 induction c with
 |skip=>intro top;funext σ Q;simp only[wv];rfl
 |region id ops draw=>
  intro top;funext σ Q;show zmy T C id ops draw top σ Q=_;simp only[zmy,wv,qbl,qbk]
 |seq a b iha ihb=>
  intro top;funext σ Q;show rSeq a b (zax T C a) (zax T C b) top σ Q=_;simp only[rSeq,wv,iha,ihb];rfl
 |cond c a b iha ihb=>
  intro top;funext σ Q;show zs8 c a b (zax T C a) (zax T C b) top σ Q=_;simp only[zs8,wv,iha,ihb];rfl
 |block id c ih=>
  intro top;funext σ Q;show zs9 id c (zax T C c) top σ Q=_;simp only[zs9,wv,ih];rfl
 |loop c ih=>
  intro top;funext σ Q;show zs6 T c (zax T C c) top σ Q=_;simp only[zs6,wv,ih,zj7];rfl
 |rangeFunc f ps a b iha ihb=>
  intro top;funext σ Q;show zkz T C f ps a b (zax T C a) (zax T C b) top σ Q=_;cases top<;>simp only[zkz,wv,iha,ihb]<;>rfl
 |exit id=>intro top;funext σ Q;simp only[wv];rfl
 |scope b ih=>intro top;funext σ Q;simp only[wv];rfl
 |label l=>intro top;funext σ Q;simp only[wv];rfl
 |goto l=>intro top;funext σ Q;simp only[wv];rfl
 |ret=>intro top;funext σ Q;simp only[wv];rfl
 |refuse w=>intro top;funext σ Q;simp only[wv];rfl
end Go.Sx
