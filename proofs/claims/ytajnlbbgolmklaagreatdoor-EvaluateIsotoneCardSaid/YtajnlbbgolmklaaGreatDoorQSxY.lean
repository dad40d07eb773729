/-
  The symbolic execution by recursors: the same propositions; the kernel finds the same closures that the elaborator leaves.
-/
import Derived.Test.YtajnlbbgolmklaaGreatDoorQSxX
import Derived.Test.YtajnlbbgolmklaaGreatDoorQSxW
set_option linter.unusedVariables false
set_option linter.unusedSimpArgs false
namespace Go.Sx
open Go
theorem frcN_eq: ∀(l:List Nat) (K:List Nat→Prop),frcN l K=K l
 | [],K=>rfl
 |i::l,K=>by simp only[frcN];rw[frcN_eq l]
abbrev RM:=Bool→St→(Exit→St→Prop)→Prop
def oNil (σ:St) (K:St→Prop):Prop:=K σ
def oCons (T:Tab) (C:Con) (ops:List Oper) (o:Oper) (_:List Oper) (ih:St→(St→Prop)→Prop) (σ:St) (K:St→Prop):Prop:=opK1 T C ops o σ fun σ=>ih σ K
noncomputable def opsR (T:Tab) (C:Con) (ops l:List Oper):St→(St→Prop)→Prop:=
 @List.rec Oper (fun _=>St→(St→Prop)→Prop) oNil (oCons T C ops) l
def dNil (σ:St) (K:List FP→St→Prop):Prop:=K [] σ
def dCons (T:Tab) (C:Con) (ops:List Oper) (o:Oper) (_:List Oper) (ih:St→(List FP→St→Prop)→Prop) (σ:St) (K:List FP→St→Prop):Prop:=
 opD1 T C ops o σ fun fp σ'=>ih σ' fun fps σ''=>K (fp::fps) σ''
noncomputable def opsS (T:Tab) (C:Con) (ops l:List Oper):St→(List FP→St→Prop)→Prop:=
 @List.rec Oper (fun _=>St→(List FP→St→Prop)→Prop) dNil (dCons T C ops) l
theorem opsR_eq (T:Tab) (C:Con) (ops l:List Oper):opsR T C ops l=opsK T C ops l:=by
 induction l with
 |nil=>funext σ K;rfl
 |cons o l ih=>
  funext σ K
  show oCons T C ops o l (opsR T C ops l) σ K=_
  rw[ih];simp only[oCons,opsK]
theorem opsS_eq (T:Tab) (C:Con) (ops l:List Oper):opsS T C ops l=opsD T C ops l:=by
 induction l with
 |nil=>funext σ K;rfl
 |cons o l ih=>
  funext σ K
  show dCons T C ops o l (opsS T C ops l) σ K=_
  rw[ih];simp only[dCons,opsD]
def rSkip:RM:=fun _ σ Q=>Q .normal σ
noncomputable def rRegion (T:Tab) (C:Con) (_:Nat) (ops:Array Oper) (draw:Bool):RM:=fun _ σ Q=> @Bool.rec (fun _=>Prop)
 (opsR T C ops.toList ops.toList σ fun σ=>renormK (appD ops.toList) σ fun σ=>Q .normal σ)
 (opsS T C ops.toList ops.toList σ fun fps σ=>fpOk 0 ops.toList fps=true∧Region.lexB .any ops=true∧renormK (appD ops.toList) σ fun σ=>Q .normal σ) draw
def rSeq (_ _:Code) (iha ihb:RM):RM:=fun top σ Q=>iha top σ fun e σ=>match e with
    | .normal =>ihb top σ Q
    | .exit i=>Q (.exit i) σ
    | .ret =>Q .ret σ
    | _=>False
def rCond (c:Operand) (_ _:Code) (iha ihb:RM):RM:=fun top σ Q=>match evalA σ.sl c with
    | .bool t=> @Bool.rec (fun _=>Prop) (ihb top σ Q) (iha top σ Q) t
    | .ub p q=>(p→iha top σ Q)∧(q→ihb top σ Q)
    | _=>False
def rBlock (id:Nat) (_:Code) (ih:RM):RM:=fun top σ Q=>ih top σ fun e σ=>match e with
    | .normal =>Q .normal σ
    | .exit i=>match Nat.beq i id with
      |true=>Q .normal σ
      |false=>Q (.exit i) σ
    | .ret =>Q .ret σ
    | _=>False
def rLoop (T:Tab) (c:Code) (ih:RM):RM:=fun top σ Q=> ∃(X:Type) (I:X→Prop) (us:X→List (Nat×AV)) (hu:X→List (Nat×Blk)) (μ:X→Nat) (x₀:X),
 I x₀∧(frcN (codeDst c) fun ws=>frcN (codeAlloc T c) fun ds=>genK ws ds (us x₀) (hu x₀) σ (fun τ=>leS σ τ))∧
 ∀x,I x→frcN (codeDst c) fun ws=>frcN (codeAlloc T c) fun ds=>genK ws ds (us x) (hu x) σ fun τ=>disB (frees τ.hp) τ.ids=true∧
  ih top τ fun e σ'=>match e with
   | .normal => ∃x',I x'∧μ x'<μ x∧genK ws ds (us x') (hu x') σ fun τ'=>leS σ' τ'
   | .exit i=>Q (.exit i) σ'
   | .ret =>Q .ret σ'
   | _=>False
def rRange (T:Tab) (C:Con) (f:Operand) (ps:Array Tmp) (asg body:Code) (iha ihb:RM):RM:=fun top σ Q=>match top,evalA σ.sl f with
    |true,.fn g caps=> ∃(is:List Nat) (X Y:Type) (hb:X→List Blk) (live:X→Bool) (pend:X→Code) (args:Y→List AV) (next:X→Y→X) (x₀ xE:X) (r:AV) (ib:List Blk),
      hgets σ.hp is=hb x₀∧live x₀=true∧rfOk T σ.hp g is caps ib=true∧disB (codeAlloc T asg++codeAlloc T body) (renL is)=true∧(∀x,plainBs (hb x)=true∧lenE is (hb x)=true)∧(∀y,nilB (idsL (args y))=true)∧
      (∀(l:Nat) (J:X→GJ),(∀x y,live x=true→C.cb l [(CBID,.gst (J x))] (args y) (.bool (live (next x y))) [(CBID,.gst (J (next x y)))])→
        C.fn g ((CBID,.gst (J x₀))::zipH (nub (idsL caps)) (hgets σ.hp (nub (idsL caps)))) (.cb l::caps) r ((CBID,.gst (J xE))::zipH (nub (idsL caps)) ib))∧
      (∀x y,live x=true→setPs ps.toList (args y) (mvlL is σ.sl) fun sl=>
        iha false ⟨sl,appH (freesOf (codeAlloc T asg++codeAlloc T body)) (zipH (renL is) (hb x))⟩ fun e τ=>match e with
        | .normal =>ihb false τ fun e τ=>match e with
          | .normal =>live (next x y)=true∧endK is (hb (next x y)) τ
          | .exit id=>live (next x y)=false∧pend (next x y)= .exit id∧endK is (hb (next x y)) τ
          | .ret =>live (next x y)=false∧pend (next x y)= .ret ∧endK is (hb (next x y)) τ
          | _=>False
        | _=>False)∧
      (match σ with
        |⟨sl,hp⟩=>hsetsK hp is (hb xE) fun hp=>hsetsK hp (nub (idsL caps)) ib fun hp=> @Bool.rec (fun _=>Prop)
          (match pend xE with
            | .exit id=>Q (.exit id) ⟨sl,hp⟩
            | .ret =>Q .ret ⟨sl,hp⟩
            | _=>False)
          (Q .normal ⟨sl,hp⟩) (live xE))
    | _,_=>False
def rExit (id:Nat):RM:=fun _ σ Q=>Q (.exit id) σ
def rRet:RM:=fun _ σ Q=>Q .ret σ
def rNo:RM:=fun _ _ _=>False
noncomputable def codeR (T:Tab) (C:Con) (c:Code):RM:=
 @Code.rec (fun _=>RM) rSkip (rRegion T C) rSeq rCond rBlock (rLoop T) (rRange T C) rExit (fun _ _=>rNo) (fun _=>rNo) (fun _=>rNo) rRet (fun _=>rNo) c
theorem codeR_eq (T:Tab) (C:Con): ∀(c:Code) (top:Bool),codeR T C c top=codeK T C top c:=by
 intro c
 induction c with
 |skip=>intro top;funext σ Q;simp only[codeK];rfl
 |region id ops draw=>
  intro top;funext σ Q
  show rRegion T C id ops draw top σ Q=_
  simp only[rRegion,codeK,opsR_eq,opsS_eq]
 |seq a b iha ihb=>
  intro top;funext σ Q
  show rSeq a b (codeR T C a) (codeR T C b) top σ Q=_
  simp only[rSeq,codeK,iha,ihb];rfl
 |cond c a b iha ihb=>
  intro top;funext σ Q
  show rCond c a b (codeR T C a) (codeR T C b) top σ Q=_
  simp only[rCond,codeK,iha,ihb];rfl
 |block id c ih=>
  intro top;funext σ Q
  show rBlock id c (codeR T C c) top σ Q=_
  simp only[rBlock,codeK,ih];rfl
 |loop c ih=>
  intro top;funext σ Q
  show rLoop T c (codeR T C c) top σ Q=_
  simp only[rLoop,codeK,ih,frcN_eq];rfl
 |rangeFunc f ps a b iha ihb=>
  intro top;funext σ Q
  show rRange T C f ps a b (codeR T C a) (codeR T C b) top σ Q=_
  cases top<;>simp only[rRange,codeK,iha,ihb]<;>rfl
 |exit id=>intro top;funext σ Q;simp only[codeK];rfl
 |scope b ih=>intro top;funext σ Q;simp only[codeK];rfl
 |label l=>intro top;funext σ Q;simp only[codeK];rfl
 |goto l=>intro top;funext σ Q;simp only[codeK];rfl
 |ret=>intro top;funext σ Q;simp only[codeK];rfl
 |refuse w=>intro top;funext σ Q;simp only[codeK];rfl
end Go.Sx
