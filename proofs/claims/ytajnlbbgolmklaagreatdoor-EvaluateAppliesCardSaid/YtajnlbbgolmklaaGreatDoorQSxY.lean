/-
  The symbolic execution by recursors: the same propositions; the kernel finds the same closures that the elaborator leaves.
-/
import Derived.Test.YtajnlbbgolmklaaGreatDoorQSxX
import Derived.Test.YtajnlbbgolmklaaGreatDoorQSxW
set_option linter.unusedVariables false
set_option linter.unusedSimpArgs false
namespace Go.Sx
open Go
theorem zi8: ∀(l:List Nat) (K:List Nat→Prop),zeb l K=K l
 | [],K=>rfl
 |i::l,K=>by simp only[zeb];rw[zi8 l]
abbrev RM:=Bool→St→(Exit→St→Prop)→Prop
def oNil (σ:St) (K:St→Prop):Prop:=K σ
def zzh (T:Tab) (C:Con) (ops:List Oper) (o:Oper) (_:List Oper) (ih:St→(St→Prop)→Prop) (σ:St) (K:St→Prop):Prop:=opK1 T C ops o σ fun σ=>ih σ K
noncomputable def qbe (T:Tab) (C:Con) (ops l:List Oper):St→(St→Prop)→Prop:=
 @List.rec Oper (fun _=>St→(St→Prop)→Prop) oNil (zzh T C ops) l
def dNil (σ:St) (K:List FP→St→Prop):Prop:=K [] σ
def qaj (T:Tab) (C:Con) (ops:List Oper) (o:Oper) (_:List Oper) (ih:St→(List FP→St→Prop)→Prop) (σ:St) (K:List FP→St→Prop):Prop:=
 opD1 T C ops o σ fun fp σ'=>ih σ' fun fps σ''=>K (fp::fps) σ''
noncomputable def opsS (T:Tab) (C:Con) (ops l:List Oper):St→(List FP→St→Prop)→Prop:=
 @List.rec Oper (fun _=>St→(List FP→St→Prop)→Prop) dNil (qaj T C ops) l
theorem zr8 (T:Tab) (C:Con) (ops l:List Oper):qbe T C ops l=zxb T C ops l:=by
 induction l with
 |nil=>funext σ K;rfl
 |cons o l ih=>
  funext σ K
  show zzh T C ops o l (qbe T C ops l) σ K=_
  rw[ih];simp only[zzh,zxb]
theorem zzd (T:Tab) (C:Con) (ops l:List Oper):opsS T C ops l=zze T C ops l:=by
 induction l with
 |nil=>funext σ K;rfl
 |cons o l ih=>
  funext σ K
  show qaj T C ops o l (opsS T C ops l) σ K=_
  rw[ih];simp only[qaj,zze]
def rSkip:RM:=fun _ σ Q=>Q .normal σ
noncomputable def zlt (T:Tab) (C:Con) (_:Nat) (ops:Array Oper) (draw:Bool):RM:=fun _ σ Q=> @Bool.rec (fun _=>Prop)
 (qbe T C ops.toList ops.toList σ fun σ=>ye (zum ops.toList) σ fun σ=>Q .normal σ)
 (opsS T C ops.toList ops.toList σ fun fps σ=>zv1 0 ops.toList fps=true∧Region.lexB .any ops=true∧ye (zum ops.toList) σ fun σ=>Q .normal σ) draw
def rSeq (_ _:Code) (iha ihb:RM):RM:=fun top σ Q=>iha top σ fun e σ=>match e with
    | .normal =>ihb top σ Q
    | .exit i=>Q (.exit i) σ
    | .ret =>Q .ret σ
    | _=>False
def zru (c:Operand) (_ _:Code) (iha ihb:RM):RM:=fun top σ Q=>match zg σ.sl c with
    | .bool t=> @Bool.rec (fun _=>Prop) (ihb top σ Q) (iha top σ Q) t
    | .ub p q=>(p→iha top σ Q)∧(q→ihb top σ Q)
    | _=>False
def zrv (id:Nat) (_:Code) (ih:RM):RM:=fun top σ Q=>ih top σ fun e σ=>match e with
    | .normal =>Q .normal σ
    | .exit i=>match Nat.beq i id with
      |true=>Q .normal σ
      |false=>Q (.exit i) σ
    | .ret =>Q .ret σ
    | _=>False
def zrs (T:Tab) (c:Code) (ih:RM):RM:=fun top σ Q=> ∃(X:Type) (I:X→Prop) (us:X→List (Nat×AV)) (hu:X→List (Nat×Blk)) (μ:X→Nat) (x₀:X),
 I x₀∧(zeb (ww c) fun ws=>zeb (zc T c) fun ds=>zod ws ds (us x₀) (hu x₀) σ (fun τ=>leS σ τ))∧
 ∀x,I x→zeb (ww c) fun ws=>zeb (zc T c) fun ds=>zod ws ds (us x) (hu x) σ fun τ=>zb5 (zeq τ.hp) τ.ids=true∧
  ih top τ fun e σ'=>match e with
   | .normal => ∃x',I x'∧μ x'<μ x∧zod ws ds (us x') (hu x') σ fun τ'=>leS σ' τ'
   | .exit i=>Q (.exit i) σ'
   | .ret =>Q .ret σ'
   | _=>False
def zj0 (T:Tab) (C:Con) (f:Operand) (ps:Array Tmp) (asg body:Code) (iha ihb:RM):RM:=fun top σ Q=>match top,zg σ.sl f with
    |true,.fn g caps=> ∃(is:List Nat) (X Y:Type) (hb:X→List Blk) (live:X→Bool) (pend:X→Code) (args:Y→List AV) (next:X→Y→X) (x₀ xE:X) (r:AV) (ib:List Blk),
      zw σ.hp is=hb x₀∧live x₀=true∧rfOk T σ.hp g is caps ib=true∧zb5 (zc T asg++zc T body) (zd7 is)=true∧(∀x,xw (hb x)=true∧zau is (hb x)=true)∧(∀y,zug (qp (args y))=true)∧
      (∀(l:Nat) (J:X→GJ),(∀x y,live x=true→C.cb l [(qo,.gst (J x))] (args y) (.bool (live (next x y))) [(qo,.gst (J (next x y)))])→
        C.fn g ((qo,.gst (J x₀))::qy (nub (qp caps)) (zw σ.hp (nub (qp caps)))) (.cb l::caps) r ((qo,.gst (J xE))::qy (nub (qp caps)) ib))∧
      (∀x y,live x=true→zek ps.toList (args y) (zem is σ.sl) fun sl=>
        iha false ⟨sl,zcq (qj (zc T asg++zc T body)) (qy (zd7 is) (hb x))⟩ fun e τ=>match e with
        | .normal =>ihb false τ fun e τ=>match e with
          | .normal =>live (next x y)=true∧zmm is (hb (next x y)) τ
          | .exit id=>live (next x y)=false∧pend (next x y)= .exit id∧zmm is (hb (next x y)) τ
          | .ret =>live (next x y)=false∧pend (next x y)= .ret ∧zmm is (hb (next x y)) τ
          | _=>False
        | _=>False)∧
      (match σ with
        |⟨sl,hp⟩=>xu hp is (hb xE) fun hp=>xu hp (nub (qp caps)) ib fun hp=> @Bool.rec (fun _=>Prop)
          (match pend xE with
            | .exit id=>Q (.exit id) ⟨sl,hp⟩
            | .ret =>Q .ret ⟨sl,hp⟩
            | _=>False)
          (Q .normal ⟨sl,hp⟩) (live xE))
    | _,_=>False
def rExit (id:Nat):RM:=fun _ σ Q=>Q (.exit id) σ
def rRet:RM:=fun _ σ Q=>Q .ret σ
def rNo:RM:=fun _ _ _=>False
noncomputable def zae (T:Tab) (C:Con) (c:Code):RM:=
 @Code.rec (fun _=>RM) rSkip (zlt T C) rSeq zru zrv (zrs T) (zj0 T C) rExit (fun _ _=>rNo) (fun _=>rNo) (fun _=>rNo) rRet (fun _=>rNo) c
theorem zbq (T:Tab) (C:Con): ∀(c:Code) (top:Bool),zae T C c top=wc T C top c:=by
 intro c
 induction c with
 |skip=>intro top;funext σ Q;simp only[wc];rfl
 |region id ops draw=>
  intro top;funext σ Q
  show zlt T C id ops draw top σ Q=_
  simp only[zlt,wc,zr8,zzd]
 |seq a b iha ihb=>
  intro top;funext σ Q
  show rSeq a b (zae T C a) (zae T C b) top σ Q=_
  simp only[rSeq,wc,iha,ihb];rfl
 |cond c a b iha ihb=>
  intro top;funext σ Q
  show zru c a b (zae T C a) (zae T C b) top σ Q=_
  simp only[zru,wc,iha,ihb];rfl
 |block id c ih=>
  intro top;funext σ Q
  show zrv id c (zae T C c) top σ Q=_
  simp only[zrv,wc,ih];rfl
 |loop c ih=>
  intro top;funext σ Q
  show zrs T c (zae T C c) top σ Q=_
  simp only[zrs,wc,ih,zi8];rfl
 |rangeFunc f ps a b iha ihb=>
  intro top;funext σ Q
  show zj0 T C f ps a b (zae T C a) (zae T C b) top σ Q=_
  cases top<;>simp only[zj0,wc,iha,ihb]<;>rfl
 |exit id=>intro top;funext σ Q;simp only[wc];rfl
 |scope b ih=>intro top;funext σ Q;simp only[wc];rfl
 |label l=>intro top;funext σ Q;simp only[wc];rfl
 |goto l=>intro top;funext σ Q;simp only[wc];rfl
 |ret=>intro top;funext σ Q;simp only[wc];rfl
 |refuse w=>intro top;funext σ Q;simp only[wc];rfl
end Go.Sx
