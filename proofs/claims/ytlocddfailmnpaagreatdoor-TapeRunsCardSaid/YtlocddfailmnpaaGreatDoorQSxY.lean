/-
  The symbolic execution by recursors: the same propositions; the kernel finds the same closures that the elaborator leaves.
-/
import Derived.Test.YtlocddfailmnpaaGreatDoorQSxX
import Derived.Test.YtlocddfailmnpaaGreatDoorQSxW
set_option linter.unusedVariables false
set_option linter.unusedSimpArgs false
namespace Go.Sx
open Go
theorem zi0: ∀(l:List Nat) (K:List Nat→Prop),zeb l K=K l
 | [],K=>rfl
 |i::l,K=>by simp only[zeb];rw[zi0 l]
abbrev RM:=Bool→St→(Exit→St→Prop)→Prop
def oNil (σ:St) (K:St→Prop):Prop:=K σ
def zzv (T:Tab) (C:Con) (ops:List Oper) (o:Oper) (_:List Oper) (ih:St→(St→Prop)→Prop) (σ:St) (K:St→Prop):Prop:=opK1 T C ops o σ fun σ=>ih σ K
noncomputable def zxl (T:Tab) (C:Con) (ops l:List Oper):St→(St→Prop)→Prop:=
 @List.rec Oper (fun _=>St→(St→Prop)→Prop) oNil (zzv T C ops) l
def dNil (σ:St) (K:List FP→St→Prop):Prop:=K [] σ
def qa0 (T:Tab) (C:Con) (ops:List Oper) (o:Oper) (_:List Oper) (ih:St→(List FP→St→Prop)→Prop) (σ:St) (K:List FP→St→Prop):Prop:=
 opD1 T C ops o σ fun fp σ'=>ih σ' fun fps σ''=>K (fp::fps) σ''
noncomputable def opsS (T:Tab) (C:Con) (ops l:List Oper):St→(List FP→St→Prop)→Prop:=
 @List.rec Oper (fun _=>St→(List FP→St→Prop)→Prop) dNil (qa0 T C ops) l
theorem zse (T:Tab) (C:Con) (ops l:List Oper):zxl T C ops l=zxm T C ops l:=by
 induction l with
 |nil=>funext σ K;rfl
 |cons o l ih=>
  funext σ K
  show zzv T C ops o l (zxl T C ops l) σ K=_
  rw[ih];simp only[zzv,zxm]
theorem zzl (T:Tab) (C:Con) (ops l:List Oper):opsS T C ops l=zzm T C ops l:=by
 induction l with
 |nil=>funext σ K;rfl
 |cons o l ih=>
  funext σ K
  show qa0 T C ops o l (opsS T C ops l) σ K=_
  rw[ih];simp only[qa0,zzm]
def rSkip:RM:=fun _ σ Q=>Q .normal σ
noncomputable def zlu (T:Tab) (C:Con) (_:Nat) (ops:Array Oper) (draw:Bool):RM:=fun _ σ Q=> @Bool.rec (fun _=>Prop)
 (zxl T C ops.toList ops.toList σ fun σ=>yc (zut ops.toList) σ fun σ=>Q .normal σ)
 (opsS T C ops.toList ops.toList σ fun fps σ=>zwb 0 ops.toList fps=true∧Region.lexB .any ops=true∧yc (zut ops.toList) σ fun σ=>Q .normal σ) draw
def rSeq (_ _:Code) (iha ihb:RM):RM:=fun top σ Q=>iha top σ fun e σ=>match e with
    | .normal =>ihb top σ Q
    | .exit i=>Q (.exit i) σ
    | .ret =>Q .ret σ
    | _=>False
def zr3 (c:Operand) (_ _:Code) (iha ihb:RM):RM:=fun top σ Q=>match zg σ.sl c with
    | .bool t=> @Bool.rec (fun _=>Prop) (ihb top σ Q) (iha top σ Q) t
    | .ub p q=>(p→iha top σ Q)∧(q→ihb top σ Q)
    | _=>False
def zr4 (id:Nat) (_:Code) (ih:RM):RM:=fun top σ Q=>ih top σ fun e σ=>match e with
    | .normal =>Q .normal σ
    | .exit i=>match Nat.beq i id with
      |true=>Q .normal σ
      |false=>Q (.exit i) σ
    | .ret =>Q .ret σ
    | _=>False
def zr1 (T:Tab) (c:Code) (ih:RM):RM:=fun top σ Q=> ∃(X:Type) (I:X→Prop) (us:X→List (Nat×AV)) (hu:X→List (Nat×Blk)) (μ:X→Nat) (x₀:X),
 I x₀∧(zeb (wz c) fun ws=>zeb (zc T c) fun ds=>zog ws ds (us x₀) (hu x₀) σ (fun τ=>leS σ τ))∧
 ∀x,I x→zeb (wz c) fun ws=>zeb (zc T c) fun ds=>zog ws ds (us x) (hu x) σ fun τ=>zao (zdw τ.hp) τ.ids=true∧
  ih top τ fun e σ'=>match e with
   | .normal => ∃x',I x'∧μ x'<μ x∧zog ws ds (us x') (hu x') σ fun τ'=>leS σ' τ'
   | .exit i=>Q (.exit i) σ'
   | .ret =>Q .ret σ'
   | _=>False
def zjr (T:Tab) (C:Con) (f:Operand) (ps:Array Tmp) (asg body:Code) (iha ihb:RM):RM:=fun top σ Q=>match top,zg σ.sl f with
    |true,.fn g caps=> ∃(is:List Nat) (X Y:Type) (hb:X→List Blk) (live:X→Bool) (pend:X→Code) (args:Y→List AV) (next:X→Y→X) (x₀ xE:X) (r:AV) (ib:List Blk),
      zt σ.hp is=hb x₀∧live x₀=true∧rfOk T σ.hp g is caps ib=true∧zao (zc T asg++zc T body) (zd7 is)=true∧(∀x,zaa (hb x)=true∧zai is (hb x)=true)∧(∀y,zur (qh (args y))=true)∧
      (∀(l:Nat) (J:X→GJ),(∀x y,live x=true→C.cb l [(qt,.gst (J x))] (args y) (.bool (live (next x y))) [(qt,.gst (J (next x y)))])→
        C.fn g ((qt,.gst (J x₀))::qk (nub (qh caps)) (zt σ.hp (nub (qh caps)))) (.cb l::caps) r ((qt,.gst (J xE))::qk (nub (qh caps)) ib))∧
      (∀x y,live x=true→zej ps.toList (args y) (zel is σ.sl) fun sl=>
        iha false ⟨sl,zcm (qi (zc T asg++zc T body)) (qk (zd7 is) (hb x))⟩ fun e τ=>match e with
        | .normal =>ihb false τ fun e τ=>match e with
          | .normal =>live (next x y)=true∧zqa is (hb (next x y)) τ
          | .exit id=>live (next x y)=false∧pend (next x y)= .exit id∧zqa is (hb (next x y)) τ
          | .ret =>live (next x y)=false∧pend (next x y)= .ret ∧zqa is (hb (next x y)) τ
          | _=>False
        | _=>False)∧
      (match σ with
        |⟨sl,hp⟩=>xu hp is (hb xE) fun hp=>xu hp (nub (qh caps)) ib fun hp=> @Bool.rec (fun _=>Prop)
          (match pend xE with
            | .exit id=>Q (.exit id) ⟨sl,hp⟩
            | .ret =>Q .ret ⟨sl,hp⟩
            | _=>False)
          (Q .normal ⟨sl,hp⟩) (live xE))
    | _,_=>False
def rExit (id:Nat):RM:=fun _ σ Q=>Q (.exit id) σ
def rRet:RM:=fun _ σ Q=>Q .ret σ
def rNo:RM:=fun _ _ _=>False
noncomputable def zaf (T:Tab) (C:Con) (c:Code):RM:=
 @Code.rec (fun _=>RM) rSkip (zlu T C) rSeq zr3 zr4 (zr1 T) (zjr T C) rExit (fun _ _=>rNo) (fun _=>rNo) (fun _=>rNo) rRet (fun _=>rNo) c
theorem zbo (T:Tab) (C:Con): ∀(c:Code) (top:Bool),zaf T C c top=wh T C top c:=by
 intro c
 induction c with
 |skip=>intro top;funext σ Q;simp only[wh];rfl
 |region id ops draw=>
  intro top;funext σ Q
  show zlu T C id ops draw top σ Q=_
  simp only[zlu,wh,zse,zzl]
 |seq a b iha ihb=>
  intro top;funext σ Q
  show rSeq a b (zaf T C a) (zaf T C b) top σ Q=_
  simp only[rSeq,wh,iha,ihb];rfl
 |cond c a b iha ihb=>
  intro top;funext σ Q
  show zr3 c a b (zaf T C a) (zaf T C b) top σ Q=_
  simp only[zr3,wh,iha,ihb];rfl
 |block id c ih=>
  intro top;funext σ Q
  show zr4 id c (zaf T C c) top σ Q=_
  simp only[zr4,wh,ih];rfl
 |loop c ih=>
  intro top;funext σ Q
  show zr1 T c (zaf T C c) top σ Q=_
  simp only[zr1,wh,ih,zi0];rfl
 |rangeFunc f ps a b iha ihb=>
  intro top;funext σ Q
  show zjr T C f ps a b (zaf T C a) (zaf T C b) top σ Q=_
  cases top<;>simp only[zjr,wh,iha,ihb]<;>rfl
 |exit id=>intro top;funext σ Q;simp only[wh];rfl
 |scope b ih=>intro top;funext σ Q;simp only[wh];rfl
 |label l=>intro top;funext σ Q;simp only[wh];rfl
 |goto l=>intro top;funext σ Q;simp only[wh];rfl
 |ret=>intro top;funext σ Q;simp only[wh];rfl
 |refuse w=>intro top;funext σ Q;simp only[wh];rfl
end Go.Sx
