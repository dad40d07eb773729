/-
  The symbolic execution by recursors: the same propositions; the kernel finds the same closures that the elaborator leaves.
-/
import Derived.Test.YtbolipecnhlnnaaGreatDoorQSxX
import Derived.Test.YtbolipecnhlnnaaGreatDoorQSxW
set_option linter.unusedVariables false
set_option linter.unusedSimpArgs false
namespace Go.Sx
open Go
theorem zj5: ∀(l:List Nat) (K:List Nat->Prop),ze4 l K=K l
 | [],K=>rfl
 |i::l,K=>by simp only[ze4];rw[zj5 l]
abbrev RM:=Bool->St->(Exit->St->Prop)->Prop
def oNil (σ:St) (K:St->Prop):Prop:=K σ
def qa3 (T:Tab) (C:Con) (ops:List Oper) (o:Oper) (_:List Oper) (ih:St->(St->Prop)->Prop) (σ:St) (K:St->Prop):Prop:=opK1 T C ops o σ fun σ=>ih σ K
noncomputable def zyn (T:Tab) (C:Con) (ops l:List Oper):St->(St->Prop)->Prop:=
 @List.rec Oper (fun _=>St->(St->Prop)->Prop) oNil (qa3 T C ops) l
def dNil (σ:St) (K:List FP->St->Prop):Prop:=K [] σ
def qcb (T:Tab) (C:Con) (ops:List Oper) (o:Oper) (_:List Oper) (ih:St->(List FP->St->Prop)->Prop) (σ:St) (K:List FP->St->Prop):Prop:=
 opD1 T C ops o σ fun fp σ'=>ih σ' fun fps σ''=>K (fp::fps) σ''
noncomputable def opsS (T:Tab) (C:Con) (ops l:List Oper):St->(List FP->St->Prop)->Prop:=
 @List.rec Oper (fun _=>St->(List FP->St->Prop)->Prop) dNil (qcb T C ops) l
theorem znd (T:Tab) (C:Con) (ops l:List Oper):zyn T C ops l=zyo T C ops l:=by
 induction l with
 |nil=>funext σ K;rfl
 |cons o l ih=>
  funext σ K
  show qa3 T C ops o l (zyn T C ops l) σ K=_;rw[ih];simp only[qa3,zyo]
theorem qaz (T:Tab) (C:Con) (ops l:List Oper):opsS T C ops l=qa0 T C ops l:=by
 induction l with
 |nil=>funext σ K;rfl
 |cons o l ih=>
  funext σ K
  show qcb T C ops o l (opsS T C ops l) σ K=_;rw[ih];simp only[qcb,qa0]
def rSkip:RM:=fun _ σ Q=>Q .normal σ
noncomputable def zm4 (T:Tab) (C:Con) (_:Nat) (ops:Array Oper) (draw:Bool):RM:=fun _ σ Q=> @Bool.rec (fun _=>Prop)
 (zyn T C ops.toList ops.toList σ fun σ=>yw (zvg ops.toList) σ fun σ=>Q .normal σ)
 (opsS T C ops.toList ops.toList σ fun fps σ=>zxc 0 ops.toList fps=true/\Region.lexB .any ops=true/\yw (zvg ops.toList) σ fun σ=>Q .normal σ) draw
def rSeq (_ _:Code) (iha ihb:RM):RM:=fun top σ Q=>iha top σ fun e σ=>match e with
    | .normal =>ihb top σ Q
    | .exit i=>Q (.exit i) σ
    | .ret =>Q .ret σ
    | _=>False
def zsm (c:Operand) (_ _:Code) (iha ihb:RM):RM:=fun top σ Q=>match zg σ.sl c with
    | .bool t=> @Bool.rec (fun _=>Prop) (ihb top σ Q) (iha top σ Q) t
    | .ub p q=>(p->iha top σ Q)/\(q->ihb top σ Q)
    | _=>False
def zsn (id:Nat) (_:Code) (ih:RM):RM:=fun top σ Q=>ih top σ fun e σ=>match e with
    | .normal =>Q .normal σ
    | .exit i=>match Nat.beq i id with
      |true=>Q .normal σ
      |false=>Q (.exit i) σ
    | .ret =>Q .ret σ
    | _=>False
def zsj (T:Tab) (c:Code) (ih:RM):RM:=fun top σ Q=> ∃(X:Type) (I:X->Prop) (us:X->List (Nat×AV)) (hu:X->List (Nat×Blk)) (μ:X->Nat) (x₀:X),
 I x₀/\(ze4 (jb c) fun ws=>ze4 (zc T c) fun ds=>zpi ws ds (us x₀) (hu x₀) σ (fun τ=>leS σ τ))/\
 ∀x,I x->ze4 (jb c) fun ws=>ze4 (zc T c) fun ds=>zpi ws ds (us x) (hu x) σ fun τ=>zeb (zem τ.hp) τ.ids=true/\
  ih top τ fun e σ'=>match e with
   | .normal => ∃x',I x'/\μ x'<μ x/\zpi ws ds (us x') (hu x') σ fun τ'=>leS σ' τ'
   | .exit i=>Q (.exit i) σ'
   | .ret =>Q .ret σ'
   | _=>False
def zk0 (T:Tab) (C:Con) (f:Operand) (ps:Array Tmp) (asg body:Code) (iha ihb:RM):RM:=fun top σ Q=>match top,zg σ.sl f with
    |true,.fn g caps=> ∃(is:List Nat) (X Y:Type) (hb:X->List Blk) (live:X->Bool) (pend:X->Code) (args:Y->List AV) (next:X->Y->X) (x₀ xE:X) (r:AV) (ib:List Blk),
      qh σ.hp is=hb x₀/\live x₀=true/\rfOk T σ.hp g is caps ib=true/\zeb (zc T asg++zc T body) (zez is)=true/\(∀x,zau (hb x)=true/\zb8 is (hb x)=true)/\(∀y,qa5 (we (args y))=true)/\
      (∀(l:Nat) (J:X->GJ),(∀x y,live x=true->C.cb l [(qa,.gst (J x))] (args y) (.bool (live (next x y))) [(qa,.gst (J (next x y)))])->
        C.fn g ((qa,.gst (J x₀))::wb (nub (we caps)) (qh σ.hp (nub (we caps)))) (.cb l::caps) r ((qa,.gst (J xE))::wb (nub (we caps)) ib))/\
      (∀x y,live x=true->zmz ps.toList (args y) (zkl is σ.sl) fun sl=>
        iha false ⟨sl,zhr (wc (zc T asg++zc T body)) (wb (zez is) (hb x))⟩ fun e τ=>match e with
        | .normal =>ihb false τ fun e τ=>match e with
          | .normal =>live (next x y)=true/\zqs is (hb (next x y)) τ
          | .exit id=>live (next x y)=false/\pend (next x y)= .exit id/\zqs is (hb (next x y)) τ
          | .ret =>live (next x y)=false/\pend (next x y)= .ret /\zqs is (hb (next x y)) τ
          | _=>False
        | _=>False)/\
      (match σ with
        |⟨sl,hp⟩=>za5 hp is (hb xE) fun hp=>za5 hp (nub (we caps)) ib fun hp=> @Bool.rec (fun _=>Prop)
          (match pend xE with
            | .exit id=>Q (.exit id) ⟨sl,hp⟩
            | .ret =>Q .ret ⟨sl,hp⟩
            | _=>False)
          (Q .normal ⟨sl,hp⟩) (live xE))
    | _,_=>False
def rExit (id:Nat):RM:=fun _ σ Q=>Q (.exit id) σ
def rRet:RM:=fun _ σ Q=>Q .ret σ
def rNo:RM:=fun _ _ _=>False
noncomputable def zaz (T:Tab) (C:Con) (c:Code):RM:=
 @Code.rec (fun _=>RM) rSkip (zm4 T C) rSeq zsm zsn (zsj T) (zk0 T C) rExit (fun _ _=>rNo) (fun _=>rNo) (fun _=>rNo) rRet (fun _=>rNo) c
theorem zke (T:Tab) (C:Con): ∀(c:Code) (top:Bool),zaz T C c top=wx T C top c:=by
 intro c
 induction c with
 |skip=>intro top;funext σ Q;simp only[wx];rfl
 |region id ops draw=>
  intro top;funext σ Q;show zm4 T C id ops draw top σ Q=_;simp only[zm4,wx,znd,qaz]
 |seq a b iha ihb=>
  intro top;funext σ Q;show rSeq a b (zaz T C a) (zaz T C b) top σ Q=_;simp only[rSeq,wx,iha,ihb];rfl
 |cond c a b iha ihb=>
  intro top;funext σ Q;show zsm c a b (zaz T C a) (zaz T C b) top σ Q=_;simp only[zsm,wx,iha,ihb];rfl
 |block id c ih=>
  intro top;funext σ Q;show zsn id c (zaz T C c) top σ Q=_;simp only[zsn,wx,ih];rfl
 |loop c ih=>
  intro top;funext σ Q;show zsj T c (zaz T C c) top σ Q=_;simp only[zsj,wx,ih,zj5];rfl
 |rangeFunc f ps a b iha ihb=>
  intro top;funext σ Q;show zk0 T C f ps a b (zaz T C a) (zaz T C b) top σ Q=_;cases top<;>simp only[zk0,wx,iha,ihb]<;>rfl
 |exit id=>intro top;funext σ Q;simp only[wx];rfl
 |scope b ih=>intro top;funext σ Q;simp only[wx];rfl
 |label l=>intro top;funext σ Q;simp only[wx];rfl
 |goto l=>intro top;funext σ Q;simp only[wx];rfl
 |ret=>intro top;funext σ Q;simp only[wx];rfl
 |refuse w=>intro top;funext σ Q;simp only[wx];rfl
end Go.Sx
