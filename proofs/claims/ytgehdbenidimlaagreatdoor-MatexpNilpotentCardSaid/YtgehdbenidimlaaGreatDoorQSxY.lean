/-
  The symbolic execution by recursors: the same propositions; the kernel finds the same closures that the elaborator leaves.
-/
import Derived.Test.YtgehdbenidimlaaGreatDoorQSxX
import Derived.Test.YtgehdbenidimlaaGreatDoorQSxW
set_option linter.unusedVariables false
set_option linter.unusedSimpArgs false
namespace Go.Sx
open Go
theorem zhq: ∀(l:List Nat) (K:List Nat→Prop),zc4 l K=K l
 | [],K=>rfl
 |i::l,K=>by simp only[zc4];rw[zhq l]
abbrev RM:=Bool→St→(Exit→St→Prop)→Prop
def oNil (σ:St) (K:St→Prop):Prop:=K σ
def zv0 (T:Tab) (C:Con) (ops:List Oper) (o:Oper) (_:List Oper) (ih:St→(St→Prop)→Prop) (σ:St) (K:St→Prop):Prop:=opK1 T C ops o σ fun σ=>ih σ K
noncomputable def zuc (T:Tab) (C:Con) (ops l:List Oper):St→(St→Prop)→Prop:=
 @List.rec Oper (fun _=>St→(St→Prop)→Prop) oNil (zv0 T C ops) l
def dNil (σ:St) (K:List FP→St→Prop):Prop:=K [] σ
def zwz (T:Tab) (C:Con) (ops:List Oper) (o:Oper) (_:List Oper) (ih:St→(List FP→St→Prop)→Prop) (σ:St) (K:List FP→St→Prop):Prop:=
 opD1 T C ops o σ fun fp σ'=>ih σ' fun fps σ''=>K (fp::fps) σ''
noncomputable def opsS (T:Tab) (C:Con) (ops l:List Oper):St→(List FP→St→Prop)→Prop:=
 @List.rec Oper (fun _=>St→(List FP→St→Prop)→Prop) dNil (zwz T C ops) l
theorem zkk (T:Tab) (C:Con) (ops l:List Oper):zuc T C ops l=zud T C ops l:=by
 induction l with
 |nil=>funext σ K;rfl
 |cons o l ih=>
  funext σ K
  show zv0 T C ops o l (zuc T C ops l) σ K=_
  rw[ih];simp only[zv0,zud]
theorem zvw (T:Tab) (C:Con) (ops l:List Oper):opsS T C ops l=zvx T C ops l:=by
 induction l with
 |nil=>funext σ K;rfl
 |cons o l ih=>
  funext σ K
  show zwz T C ops o l (opsS T C ops l) σ K=_
  rw[ih];simp only[zwz,zvx]
def rSkip:RM:=fun _ σ Q=>Q .normal σ
noncomputable def zke (T:Tab) (C:Con) (_:Nat) (ops:Array Oper) (draw:Bool):RM:=fun _ σ Q=> @Bool.rec (fun _=>Prop)
 (zuc T C ops.toList ops.toList σ fun σ=>ui (zrn ops.toList) σ fun σ=>Q .normal σ)
 (opsS T C ops.toList ops.toList σ fun fps σ=>zs6 0 ops.toList fps=true∧Region.lexB .any ops=true∧ui (zrn ops.toList) σ fun σ=>Q .normal σ) draw
def rSeq (_ _:Code) (iha ihb:RM):RM:=fun top σ Q=>iha top σ fun e σ=>match e with
    | .normal =>ihb top σ Q
    | .exit i=>Q (.exit i) σ
    | .ret =>Q .ret σ
    | _=>False
def zpb (c:Operand) (_ _:Code) (iha ihb:RM):RM:=fun top σ Q=>match zg σ.sl c with
    | .bool t=> @Bool.rec (fun _=>Prop) (ihb top σ Q) (iha top σ Q) t
    | .ub p q=>(p→iha top σ Q)∧(q→ihb top σ Q)
    | _=>False
def zpc (id:Nat) (_:Code) (ih:RM):RM:=fun top σ Q=>ih top σ fun e σ=>match e with
    | .normal =>Q .normal σ
    | .exit i=>match Nat.beq i id with
      |true=>Q .normal σ
      |false=>Q (.exit i) σ
    | .ret =>Q .ret σ
    | _=>False
def zo8 (T:Tab) (c:Code) (ih:RM):RM:=fun top σ Q=> ∃(X:Type) (I:X→Prop) (us:X→List (Nat×AV)) (hu:X→List (Nat×Blk)) (μ:X→Nat) (x₀:X),
 I x₀∧(zc4 (wj c) fun ws=>zc4 (zc T c) fun ds=>zmm ws ds (us x₀) (hu x₀) σ (fun τ=>leS σ τ))∧
 ∀x,I x→zc4 (wj c) fun ws=>zc4 (zc T c) fun ds=>zmm ws ds (us x) (hu x) σ fun τ=>zci (zcr τ.hp) τ.ids=true∧
  ih top τ fun e σ'=>match e with
   | .normal => ∃x',I x'∧μ x'<μ x∧zmm ws ds (us x') (hu x') σ fun τ'=>leS σ' τ'
   | .exit i=>Q (.exit i) σ'
   | .ret =>Q .ret σ'
   | _=>False
def zih (T:Tab) (C:Con) (f:Operand) (ps:Array Tmp) (asg body:Code) (iha ihb:RM):RM:=fun top σ Q=>match top,zg σ.sl f with
    |true,.fn g caps=> ∃(is:List Nat) (X Y:Type) (hb:X→List Blk) (live:X→Bool) (pend:X→Code) (args:Y→List AV) (next:X→Y→X) (x₀ xE:X) (r:AV) (ib:List Blk),
      qa σ.hp is=hb x₀∧live x₀=true∧rfOk T σ.hp g is caps ib=true∧zci (zc T asg++zc T body) (zc1 is)=true∧(∀x,yz (hb x)=true∧zan is (hb x)=true)∧(∀y,zv1 (vi (args y))=true)∧
      (∀(l:Nat) (J:X→GJ),(∀x y,live x=true→C.cb l [(zt,.gst (J x))] (args y) (.bool (live (next x y))) [(zt,.gst (J (next x y)))])→
        C.fn g ((zt,.gst (J x₀))::ve (nub (vi caps)) (qa σ.hp (nub (vi caps)))) (.cb l::caps) r ((zt,.gst (J xE))::ve (nub (vi caps)) ib))∧
      (∀x y,live x=true→zka ps.toList (args y) (zh4 is σ.sl) fun sl=>
        iha false ⟨sl,zfq (vf (zc T asg++zc T body)) (ve (zc1 is) (hb x))⟩ fun e τ=>match e with
        | .normal =>ihb false τ fun e τ=>match e with
          | .normal =>live (next x y)=true∧zn0 is (hb (next x y)) τ
          | .exit id=>live (next x y)=false∧pend (next x y)= .exit id∧zn0 is (hb (next x y)) τ
          | .ret =>live (next x y)=false∧pend (next x y)= .ret ∧zn0 is (hb (next x y)) τ
          | _=>False
        | _=>False)∧
      (match σ with
        |⟨sl,hp⟩=>xm hp is (hb xE) fun hp=>xm hp (nub (vi caps)) ib fun hp=> @Bool.rec (fun _=>Prop)
          (match pend xE with
            | .exit id=>Q (.exit id) ⟨sl,hp⟩
            | .ret =>Q .ret ⟨sl,hp⟩
            | _=>False)
          (Q .normal ⟨sl,hp⟩) (live xE))
    | _,_=>False
def rExit (id:Nat):RM:=fun _ σ Q=>Q (.exit id) σ
def rRet:RM:=fun _ σ Q=>Q .ret σ
def rNo:RM:=fun _ _ _=>False
noncomputable def xg (T:Tab) (C:Con) (c:Code):RM:=
 @Code.rec (fun _=>RM) rSkip (zke T C) rSeq zpb zpc (zo8 T) (zih T C) rExit (fun _ _=>rNo) (fun _=>rNo) (fun _=>rNo) rRet (fun _=>rNo) c
theorem zhy (T:Tab) (C:Con): ∀(c:Code) (top:Bool),xg T C c top=we T C top c:=by
 intro c
 induction c with
 |skip=>intro top;funext σ Q;simp only[we];rfl
 |region id ops draw=>
  intro top;funext σ Q
  show zke T C id ops draw top σ Q=_
  simp only[zke,we,zkk,zvw]
 |seq a b iha ihb=>
  intro top;funext σ Q
  show rSeq a b (xg T C a) (xg T C b) top σ Q=_
  simp only[rSeq,we,iha,ihb];rfl
 |cond c a b iha ihb=>
  intro top;funext σ Q
  show zpb c a b (xg T C a) (xg T C b) top σ Q=_
  simp only[zpb,we,iha,ihb];rfl
 |block id c ih=>
  intro top;funext σ Q
  show zpc id c (xg T C c) top σ Q=_
  simp only[zpc,we,ih];rfl
 |loop c ih=>
  intro top;funext σ Q
  show zo8 T c (xg T C c) top σ Q=_
  simp only[zo8,we,ih,zhq];rfl
 |rangeFunc f ps a b iha ihb=>
  intro top;funext σ Q
  show zih T C f ps a b (xg T C a) (xg T C b) top σ Q=_
  cases top<;>simp only[zih,we,iha,ihb]<;>rfl
 |exit id=>intro top;funext σ Q;simp only[we];rfl
 |scope b ih=>intro top;funext σ Q;simp only[we];rfl
 |label l=>intro top;funext σ Q;simp only[we];rfl
 |goto l=>intro top;funext σ Q;simp only[we];rfl
 |ret=>intro top;funext σ Q;simp only[we];rfl
 |refuse w=>intro top;funext σ Q;simp only[we];rfl
end Go.Sx
