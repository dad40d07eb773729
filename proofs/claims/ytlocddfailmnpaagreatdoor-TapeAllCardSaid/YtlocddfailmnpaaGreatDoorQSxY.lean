/-
  The symbolic execution by recursors: the same propositions; the kernel finds the same closures that the elaborator leaves.
-/
import Derived.Test.YtlocddfailmnpaaGreatDoorQSxX
import Derived.Test.YtlocddfailmnpaaGreatDoorQSxW
set_option linter.unusedVariables false
set_option linter.unusedSimpArgs false
namespace Go.Sx
open Go
theorem zil: ∀(l:List Nat) (K:List Nat→Prop),zdx l K=K l
 | [],K=>rfl
 |i::l,K=>by simp only[zdx];rw[zil l]
abbrev RM:=Bool→St→(Exit→St→Prop)→Prop
def oNil (σ:St) (K:St→Prop):Prop:=K σ
def zy6 (T:Tab) (C:Con) (ops:List Oper) (o:Oper) (_:List Oper) (ih:St→(St→Prop)→Prop) (σ:St) (K:St→Prop):Prop:=opK1 T C ops o σ fun σ=>ih σ K
noncomputable def zwy (T:Tab) (C:Con) (ops l:List Oper):St→(St→Prop)→Prop:=
 @List.rec Oper (fun _=>St→(St→Prop)→Prop) oNil (zy6 T C ops) l
def dNil (σ:St) (K:List FP→St→Prop):Prop:=K [] σ
def zz9 (T:Tab) (C:Con) (ops:List Oper) (o:Oper) (_:List Oper) (ih:St→(List FP→St→Prop)→Prop) (σ:St) (K:List FP→St→Prop):Prop:=
 opD1 T C ops o σ fun fp σ'=>ih σ' fun fps σ''=>K (fp::fps) σ''
noncomputable def opsS (T:Tab) (C:Con) (ops l:List Oper):St→(List FP→St→Prop)→Prop:=
 @List.rec Oper (fun _=>St→(List FP→St→Prop)→Prop) dNil (zz9 T C ops) l
theorem zrt (T:Tab) (C:Con) (ops l:List Oper):zwy T C ops l=zwz T C ops l:=by
 induction l with
 |nil=>funext σ K;rfl
 |cons o l ih=>
  funext σ K
  show zy6 T C ops o l (zwy T C ops l) σ K=_
  rw[ih];simp only[zy6,zwz]
theorem zyx (T:Tab) (C:Con) (ops l:List Oper):opsS T C ops l=zyy T C ops l:=by
 induction l with
 |nil=>funext σ K;rfl
 |cons o l ih=>
  funext σ K
  show zz9 T C ops o l (opsS T C ops l) σ K=_
  rw[ih];simp only[zz9,zyy]
def rSkip:RM:=fun _ σ Q=>Q .normal σ
noncomputable def zli (T:Tab) (C:Con) (_:Nat) (ops:Array Oper) (draw:Bool):RM:=fun _ σ Q=> @Bool.rec (fun _=>Prop)
 (zwy T C ops.toList ops.toList σ fun σ=>uz (zt7 ops.toList) σ fun σ=>Q .normal σ)
 (opsS T C ops.toList ops.toList σ fun fps σ=>zvp 0 ops.toList fps=true∧Region.lexB .any ops=true∧uz (zt7 ops.toList) σ fun σ=>Q .normal σ) draw
def rSeq (_ _:Code) (iha ihb:RM):RM:=fun top σ Q=>iha top σ fun e σ=>match e with
    | .normal =>ihb top σ Q
    | .exit i=>Q (.exit i) σ
    | .ret =>Q .ret σ
    | _=>False
def zri (c:Operand) (_ _:Code) (iha ihb:RM):RM:=fun top σ Q=>match zf σ.sl c with
    | .bool t=> @Bool.rec (fun _=>Prop) (ihb top σ Q) (iha top σ Q) t
    | .ub p q=>(p→iha top σ Q)∧(q→ihb top σ Q)
    | _=>False
def zrj (id:Nat) (_:Code) (ih:RM):RM:=fun top σ Q=>ih top σ fun e σ=>match e with
    | .normal =>Q .normal σ
    | .exit i=>match Nat.beq i id with
      |true=>Q .normal σ
      |false=>Q (.exit i) σ
    | .ret =>Q .ret σ
    | _=>False
def zrg (T:Tab) (c:Code) (ih:RM):RM:=fun top σ Q=> ∃(X:Type) (I:X→Prop) (us:X→List (Nat×AV)) (hu:X→List (Nat×Blk)) (μ:X→Nat) (x₀:X),
 I x₀∧(zdx (wy c) fun ws=>zdx (zc T c) fun ds=>znw ws ds (us x₀) (hu x₀) σ (fun τ=>leS σ τ))∧
 ∀x,I x→zdx (wy c) fun ws=>zdx (zc T c) fun ds=>znw ws ds (us x) (hu x) σ fun τ=>zaf (zdg τ.hp) τ.ids=true∧
  ih top τ fun e σ'=>match e with
   | .normal => ∃x',I x'∧μ x'<μ x∧znw ws ds (us x') (hu x') σ fun τ'=>leS σ' τ'
   | .exit i=>Q (.exit i) σ'
   | .ret =>Q .ret σ'
   | _=>False
def zjf (T:Tab) (C:Con) (f:Operand) (ps:Array Tmp) (asg body:Code) (iha ihb:RM):RM:=fun top σ Q=>match top,zf σ.sl f with
    |true,.fn g caps=> ∃(is:List Nat) (X Y:Type) (hb:X→List Blk) (live:X→Bool) (pend:X→Code) (args:Y→List AV) (next:X→Y→X) (x₀ xE:X) (r:AV) (ib:List Blk),
      zt σ.hp is=hb x₀∧live x₀=true∧rfOk T σ.hp g is caps ib=true∧zaf (zc T asg++zc T body) (zds is)=true∧(∀x,xr (hb x)=true∧xy is (hb x)=true)∧(∀y,zt5 (qg (args y))=true)∧
      (∀(l:Nat) (J:X→GJ),(∀x y,live x=true→C.cb l [(qr,.gst (J x))] (args y) (.bool (live (next x y))) [(qr,.gst (J (next x y)))])→
        C.fn g ((qr,.gst (J x₀))::qj (nub (qg caps)) (zt σ.hp (nub (qg caps)))) (.cb l::caps) r ((qr,.gst (J xE))::qj (nub (qg caps)) ib))∧
      (∀x y,live x=true→zd5 ps.toList (args y) (zd7 is σ.sl) fun sl=>
        iha false ⟨sl,zb9 (qh (zc T asg++zc T body)) (qj (zds is) (hb x))⟩ fun e τ=>match e with
        | .normal =>ihb false τ fun e τ=>match e with
          | .normal =>live (next x y)=true∧zpo is (hb (next x y)) τ
          | .exit id=>live (next x y)=false∧pend (next x y)= .exit id∧zpo is (hb (next x y)) τ
          | .ret =>live (next x y)=false∧pend (next x y)= .ret ∧zpo is (hb (next x y)) τ
          | _=>False
        | _=>False)∧
      (match σ with
        |⟨sl,hp⟩=>xn hp is (hb xE) fun hp=>xn hp (nub (qg caps)) ib fun hp=> @Bool.rec (fun _=>Prop)
          (match pend xE with
            | .exit id=>Q (.exit id) ⟨sl,hp⟩
            | .ret =>Q .ret ⟨sl,hp⟩
            | _=>False)
          (Q .normal ⟨sl,hp⟩) (live xE))
    | _,_=>False
def rExit (id:Nat):RM:=fun _ σ Q=>Q (.exit id) σ
def rRet:RM:=fun _ σ Q=>Q .ret σ
def rNo:RM:=fun _ _ _=>False
noncomputable def xv (T:Tab) (C:Con) (c:Code):RM:=
 @Code.rec (fun _=>RM) rSkip (zli T C) rSeq zri zrj (zrg T) (zjf T C) rExit (fun _ _=>rNo) (fun _=>rNo) (fun _=>rNo) rRet (fun _=>rNo) c
theorem zbg (T:Tab) (C:Con): ∀(c:Code) (top:Bool),xv T C c top=wd T C top c:=by
 intro c
 induction c with
 |skip=>intro top;funext σ Q;simp only[wd];rfl
 |region id ops draw=>
  intro top;funext σ Q
  show zli T C id ops draw top σ Q=_
  simp only[zli,wd,zrt,zyx]
 |seq a b iha ihb=>
  intro top;funext σ Q
  show rSeq a b (xv T C a) (xv T C b) top σ Q=_
  simp only[rSeq,wd,iha,ihb];rfl
 |cond c a b iha ihb=>
  intro top;funext σ Q
  show zri c a b (xv T C a) (xv T C b) top σ Q=_
  simp only[zri,wd,iha,ihb];rfl
 |block id c ih=>
  intro top;funext σ Q
  show zrj id c (xv T C c) top σ Q=_
  simp only[zrj,wd,ih];rfl
 |loop c ih=>
  intro top;funext σ Q
  show zrg T c (xv T C c) top σ Q=_
  simp only[zrg,wd,ih,zil];rfl
 |rangeFunc f ps a b iha ihb=>
  intro top;funext σ Q
  show zjf T C f ps a b (xv T C a) (xv T C b) top σ Q=_
  cases top<;>simp only[zjf,wd,iha,ihb]<;>rfl
 |exit id=>intro top;funext σ Q;simp only[wd];rfl
 |scope b ih=>intro top;funext σ Q;simp only[wd];rfl
 |label l=>intro top;funext σ Q;simp only[wd];rfl
 |goto l=>intro top;funext σ Q;simp only[wd];rfl
 |ret=>intro top;funext σ Q;simp only[wd];rfl
 |refuse w=>intro top;funext σ Q;simp only[wd];rfl
end Go.Sx
