/- The symbolic execution by recursors: the same propositions; the kernel finds the same closures that the elaborator leaves. -/
import Derived.Test.YtbolipecnhlnnaaGreatDoorSSxW
set_option linter.unusedVariables false
set_option linter.unusedSimpArgs false
namespace Go.Sx
open Go
theorem zkf: ∀(l:List Nat) (K:List Nat->Prop),zfa l K=K l
 | [],K=>rfl
 |i::l,K=>by simp only[zfa];rw[zkf l]
abbrev RM:=Bool->St->(Exit->St->Prop)->Prop
def oNil (Z:St) (K:St->Prop):Prop:=K Z
def qbn (T:Tab) (C:Con) (ops:List Oper) (o:Oper) (_:List Oper) (ih:St->(St->Prop)->Prop) (Z:St) (K:St->Prop):Prop:=opK1 T C ops o Z fun Z=>ih Z K
noncomputable def zy7 (T:Tab) (C:Con) (ops l:List Oper):St->(St->Prop)->Prop:=
 @List.rec Oper (fun _=>St->(St->Prop)->Prop) oNil (qbn T C ops) l
def dNil (Z:St) (K:List FP->St->Prop):Prop:=K [] Z
def qcv (T:Tab) (C:Con) (ops:List Oper) (o:Oper) (_:List Oper) (ih:St->(List FP->St->Prop)->Prop) (Z:St) (K:List FP->St->Prop):Prop:=
 opD1 T C ops o Z fun fp σ'=>ih σ' fun fps σ''=>K (fp::fps) σ''
noncomputable def opsS (T:Tab) (C:Con) (ops l:List Oper):St->(List FP->St->Prop)->Prop:=
 @List.rec Oper (fun _=>St->(List FP->St->Prop)->Prop) dNil (qcv T C ops) l
theorem znm (T:Tab) (C:Con) (ops l:List Oper):zy7 T C ops l=zy8 T C ops l:=by
 induction l with
 |nil=>funext Z K;rfl
 |cons o l ih=>
  funext Z K
  show qbn T C ops o l (zy7 T C ops l) Z K=_;rw[ih];simp only[qbn,zy8]
theorem qbj (T:Tab) (C:Con) (ops l:List Oper):opsS T C ops l=qbk T C ops l:=by
 induction l with
 |nil=>funext Z K;rfl
 |cons o l ih=>
  funext Z K
  show qcv T C ops o l (opsS T C ops l) Z K=_;rw[ih];simp only[qcv,qbk]
def rSkip:RM:=fun _ Z Q=>Q .normal Z
noncomputable def znd (T:Tab) (C:Con) (_:Nat) (ops:Array Oper) (draw:Bool):RM:=fun _ Z Q=> @Bool.rec (fun _=>Prop)
 (zy7 T C ops.toList ops.toList Z fun Z=>xi (zvu ops.toList) Z fun Z=>Q .normal Z)
 (opsS T C ops.toList ops.toList Z fun fps Z=>zxu 0 ops.toList fps=true/\Region.lexB .any ops=true/\xi (zvu ops.toList) Z fun Z=>Q .normal Z) draw
def rSeq (_ _:Code) (iha ihb:RM):RM:=fun top Z Q=>iha top Z fun e Z=>match e with
    | .normal =>ihb top Z Q
    | .exit i=>Q (.exit i) Z
    | .ret =>Q .ret Z
    | _=>False
def zsw (c:Operand) (_ _:Code) (iha ihb:RM):RM:=fun top Z Q=>match zk Z.sl c with
    | .bool t=> @Bool.rec (fun _=>Prop) (ihb top Z Q) (iha top Z Q) t
    | .ub p q=>(p->iha top Z Q)/\(q->ihb top Z Q)
    | _=>False
def zsx (id:Nat) (_:Code) (ih:RM):RM:=fun top Z Q=>ih top Z fun e Z=>match e with
    | .normal =>Q .normal Z
    | .exit i=>match Nat.beq i id with
      |true=>Q .normal Z
      |false=>Q (.exit i) Z
    | .ret =>Q .ret Z
    | _=>False
def zst (T:Tab) (c:Code) (ih:RM):RM:=fun top Z Q=> ∃(X:Type) (I:X->Prop) (us:X->List (Nat×AV)) (hu:X->List (Nat×Blk)) (μ:X->Nat) (x₀:X),
 I x₀/\(zfa (jg c) fun ws=>zfa (ze T c) fun ds=>zpq ws ds (us x₀) (hu x₀) Z (fun G=>leS Z G))/\
 ∀x,I x->zfa (jg c) fun ws=>zfa (ze T c) fun ds=>zpq ws ds (us x) (hu x) Z fun G=>zeg (zet G.hp) G.ids=true/\
  ih top G fun e σ'=>match e with
   | .normal => ∃x',I x'/\μ x'<μ x/\zpq ws ds (us x') (hu x') Z fun τ'=>leS σ' τ'
   | .exit i=>Q (.exit i) σ'
   | .ret =>Q .ret σ'
   | _=>False
def zk9 (T:Tab) (C:Con) (f:Operand) (ps:Array Tmp) (asg body:Code) (iha ihb:RM):RM:=fun top Z Q=>match top,zk Z.sl f with
    |true,.fn g caps=> ∃(is:List Nat) (X Y:Type) (hb:X->List Blk) (live:X->Bool) (pend:X->Code) (args:Y->List AV) (next:X->Y->X) (x₀ xE:X) (r:AV) (ib:List Blk),
      qi Z.hp is=hb x₀/\live x₀=true/\rfOk T Z.hp g is caps ib=true/\zeg (ze T asg++ze T body) (ze6 is)=true/\(∀x,za3 (hb x)=true/\zcg is (hb x)=true)/\(∀y,qbp (wj (args y))=true)/\
      (∀(l:Nat) (J:X->GJ),(∀x y,live x=true->C.cb l [(qd,.gst (J x))] (args y) (.bool (live (next x y))) [(qd,.gst (J (next x y)))])->
        C.fn g ((qd,.gst (J x₀))::we (nub (wj caps)) (qi Z.hp (nub (wj caps)))) (.cb l::caps) r ((qd,.gst (J xE))::we (nub (wj caps)) ib))/\
      (∀x y,live x=true->zm8 ps.toList (args y) (zku is Z.sl) fun sl=>
        iha false ⟨sl,zhz (wg (ze T asg++ze T body)) (we (ze6 is) (hb x))⟩ fun e G=>match e with
        | .normal =>ihb false G fun e G=>match e with
          | .normal =>live (next x y)=true/\zqz is (hb (next x y)) G
          | .exit id=>live (next x y)=false/\pend (next x y)= .exit id/\zqz is (hb (next x y)) G
          | .ret =>live (next x y)=false/\pend (next x y)= .ret /\zqz is (hb (next x y)) G
          | _=>False
        | _=>False)/\
      (match Z with
        |⟨sl,hp⟩=>zbf hp is (hb xE) fun hp=>zbf hp (nub (wj caps)) ib fun hp=> @Bool.rec (fun _=>Prop)
          (match pend xE with
            | .exit id=>Q (.exit id) ⟨sl,hp⟩
            | .ret =>Q .ret ⟨sl,hp⟩
            | _=>False)
          (Q .normal ⟨sl,hp⟩) (live xE))
    | _,_=>False
def rExit (id:Nat):RM:=fun _ Z Q=>Q (.exit id) Z
def rRet:RM:=fun _ Z Q=>Q .ret Z
def rNo:RM:=fun _ _ _=>False
noncomputable def za8 (T:Tab) (C:Con) (c:Code):RM:=
 @Code.rec (fun _=>RM) rSkip (znd T C) rSeq zsw zsx (zst T) (zk9 T C) rExit (fun _ _=>rNo) (fun _=>rNo) (fun _=>rNo) rRet (fun _=>rNo) c
theorem zko (T:Tab) (C:Con): ∀(c:Code) (top:Bool),za8 T C c top=jc T C top c:=by
 intro c
 induction c with
 |skip=>intro top;funext Z Q;simp only[jc];rfl
 |region id ops draw=>
  intro top;funext Z Q;show znd T C id ops draw top Z Q=_;simp only[znd,jc,znm,qbj]
 |seq a b iha ihb=>
  intro top;funext Z Q;show rSeq a b (za8 T C a) (za8 T C b) top Z Q=_;simp only[rSeq,jc,iha,ihb];rfl
 |cond c a b iha ihb=>
  intro top;funext Z Q;show zsw c a b (za8 T C a) (za8 T C b) top Z Q=_;simp only[zsw,jc,iha,ihb];rfl
 |block id c ih=>
  intro top;funext Z Q;show zsx id c (za8 T C c) top Z Q=_;simp only[zsx,jc,ih];rfl
 |loop c ih=>
  intro top;funext Z Q;show zst T c (za8 T C c) top Z Q=_;simp only[zst,jc,ih,zkf];rfl
 |rangeFunc f ps a b iha ihb=>
  intro top;funext Z Q;show zk9 T C f ps a b (za8 T C a) (za8 T C b) top Z Q=_;cases top<;>simp only[zk9,jc,iha,ihb]<;>rfl
 |exit id=>intro top;funext Z Q;simp only[jc];rfl
 |scope b ih=>intro top;funext Z Q;simp only[jc];rfl
 |label l=>intro top;funext Z Q;simp only[jc];rfl
 |goto l=>intro top;funext Z Q;simp only[jc];rfl
 |ret=>intro top;funext Z Q;simp only[jc];rfl
 |refuse w=>intro top;funext Z Q;simp only[jc];rfl
