/- The symbolic execution by recursors: the same propositions; the kernel finds the same closures that the elaborator leaves. -/
import Derived.Test.YtbolipecnhlnnaaGreatDoorTSxW
set_option linter.unusedVariables false
set_option linter.unusedSimpArgs false
namespace Go.Sx
open Go
theorem zkb: ∀(l:List Nat) (K:List Nat->Prop),ze9 l K=K l
 | [],K=>rfl
 |i::l,K=>by simp only[ze9];rw[zkb l]
abbrev RM:=Bool->St->(Exit->St->Prop)->Prop
def oNil (Z:St) (K:St->Prop):Prop:=K Z
def qbz (T:Tab) (C:Con) (ops:List Oper) (o:Oper) (_:List Oper) (ih:St->(St->Prop)->Prop) (Z:St) (K:St->Prop):Prop:=opK1 T C ops o Z fun Z=>ih Z K
noncomputable def zzc (T:Tab) (C:Con) (ops l:List Oper):St->(St->Prop)->Prop:=
 @List.rec Oper (fun _=>St->(St->Prop)->Prop) oNil (qbz T C ops) l
def dNil (Z:St) (K:List FP->St->Prop):Prop:=K [] Z
def qc4 (T:Tab) (C:Con) (ops:List Oper) (o:Oper) (_:List Oper) (ih:St->(List FP->St->Prop)->Prop) (Z:St) (K:List FP->St->Prop):Prop:=
 opD1 T C ops o Z fun fp σ'=>ih σ' fun fps σ''=>K (fp::fps) σ''
noncomputable def opsS (T:Tab) (C:Con) (ops l:List Oper):St->(List FP->St->Prop)->Prop:=
 @List.rec Oper (fun _=>St->(List FP->St->Prop)->Prop) dNil (qc4 T C ops) l
theorem zni (T:Tab) (C:Con) (ops l:List Oper):zzc T C ops l=zzd T C ops l:=by
 induction l with
 |nil=>funext Z K;rfl
 |cons o l ih=>
  funext Z K
  show qbz T C ops o l (zzc T C ops l) Z K=_;rw[ih];simp only[qbz,zzd]
theorem qbv (T:Tab) (C:Con) (ops l:List Oper):opsS T C ops l=qbw T C ops l:=by
 induction l with
 |nil=>funext Z K;rfl
 |cons o l ih=>
  funext Z K
  show qc4 T C ops o l (opsS T C ops l) Z K=_;rw[ih];simp only[qc4,qbw]
def rSkip:RM:=fun _ Z Q=>Q .normal Z
noncomputable def zna (T:Tab) (C:Con) (_:Nat) (ops:Array Oper) (draw:Bool):RM:=fun _ Z Q=> @Bool.rec (fun _=>Prop)
 (zzc T C ops.toList ops.toList Z fun Z=>xe (zvs ops.toList) Z fun Z=>Q .normal Z)
 (opsS T C ops.toList ops.toList Z fun fps Z=>zxt 0 ops.toList fps=true/\Region.lexB .any ops=true/\xe (zvs ops.toList) Z fun Z=>Q .normal Z) draw
def rSeq (_ _:Code) (iha ihb:RM):RM:=fun top Z Q=>iha top Z fun e Z=>match e with
    | .normal =>ihb top Z Q
    | .exit i=>Q (.exit i) Z
    | .ret =>Q .ret Z
    | _=>False
def zs3 (c:Operand) (_ _:Code) (iha ihb:RM):RM:=fun top Z Q=>match zj Z.sl c with
    | .bool t=> @Bool.rec (fun _=>Prop) (ihb top Z Q) (iha top Z Q) t
    | .ub p q=>(p->iha top Z Q)/\(q->ihb top Z Q)
    | _=>False
def zs4 (id:Nat) (_:Code) (ih:RM):RM:=fun top Z Q=>ih top Z fun e Z=>match e with
    | .normal =>Q .normal Z
    | .exit i=>match Nat.beq i id with
      |true=>Q .normal Z
      |false=>Q (.exit i) Z
    | .ret =>Q .ret Z
    | _=>False
def zs0 (T:Tab) (c:Code) (ih:RM):RM:=fun top Z Q=> ∃(X:Type) (I:X->Prop) (us:X->List (Nat×AV)) (hu:X->List (Nat×Blk)) (μ:X->Nat) (x₀:X),
 I x₀/\(ze9 (ja c) fun ws=>ze9 (zd T c) fun ds=>zpg ws ds (us x₀) (hu x₀) Z (fun G=>leS Z G))/\
 ∀x,I x->ze9 (ja c) fun ws=>ze9 (zd T c) fun ds=>zpg ws ds (us x) (hu x) Z fun G=>zef (zer G.hp) G.ids=true/\
  ih top G fun e σ'=>match e with
   | .normal => ∃x',I x'/\μ x'<μ x/\zpg ws ds (us x') (hu x') Z fun τ'=>leS σ' τ'
   | .exit i=>Q (.exit i) σ'
   | .ret =>Q .ret σ'
   | _=>False
def zk9 (T:Tab) (C:Con) (f:Operand) (ps:Array Tmp) (asg body:Code) (iha ihb:RM):RM:=fun top Z Q=>match top,zj Z.sl f with
    |true,.fn g caps=> ∃(is:List Nat) (X Y:Type) (hb:X->List Blk) (live:X->Bool) (pend:X->Code) (args:Y->List AV) (next:X->Y->X) (x₀ xE:X) (r:AV) (ib:List Blk),
      qi Z.hp is=hb x₀/\live x₀=true/\rfOk T Z.hp g is caps ib=true/\zef (zd T asg++zd T body) (ze3 is)=true/\(∀x,za6 (hb x)=true/\zca is (hb x)=true)/\(∀y,qb1 (wg (args y))=true)/\
      (∀(l:Nat) (J:X->GJ),(∀x y,live x=true->C.cb l [(zy,.gst (J x))] (args y) (.bool (live (next x y))) [(zy,.gst (J (next x y)))])->
        C.fn g ((zy,.gst (J x₀))::wb (nub (wg caps)) (qi Z.hp (nub (wg caps)))) (.cb l::caps) r ((zy,.gst (J xE))::wb (nub (wg caps)) ib))/\
      (∀x y,live x=true->zm4 ps.toList (args y) (zkt is Z.sl) fun sl=>
        iha false ⟨sl,zhw (wc (zd T asg++zd T body)) (wb (ze3 is) (hb x))⟩ fun e G=>match e with
        | .normal =>ihb false G fun e G=>match e with
          | .normal =>live (next x y)=true/\zqy is (hb (next x y)) G
          | .exit id=>live (next x y)=false/\pend (next x y)= .exit id/\zqy is (hb (next x y)) G
          | .ret =>live (next x y)=false/\pend (next x y)= .ret /\zqy is (hb (next x y)) G
          | _=>False
        | _=>False)/\
      (match Z with
        |⟨sl,hp⟩=>zbd hp is (hb xE) fun hp=>zbd hp (nub (wg caps)) ib fun hp=> @Bool.rec (fun _=>Prop)
          (match pend xE with
            | .exit id=>Q (.exit id) ⟨sl,hp⟩
            | .ret =>Q .ret ⟨sl,hp⟩
            | _=>False)
          (Q .normal ⟨sl,hp⟩) (live xE))
    | _,_=>False
def rExit (id:Nat):RM:=fun _ Z Q=>Q (.exit id) Z
def rRet:RM:=fun _ Z Q=>Q .ret Z
def rNo:RM:=fun _ _ _=>False
noncomputable def za9 (T:Tab) (C:Con) (c:Code):RM:=
 @Code.rec (fun _=>RM) rSkip (zna T C) rSeq zs3 zs4 (zs0 T) (zk9 T C) rExit (fun _ _=>rNo) (fun _=>rNo) (fun _=>rNo) rRet (fun _=>rNo) c
theorem zkm (T:Tab) (C:Con): ∀(c:Code) (top:Bool),za9 T C c top=wv T C top c:=by
 intro c
 induction c with
 |skip=>intro top;funext Z Q;simp only[wv];rfl
 |region id ops draw=>
  intro top;funext Z Q;show zna T C id ops draw top Z Q=_;simp only[zna,wv,zni,qbv]
 |seq a b iha ihb=>
  intro top;funext Z Q;show rSeq a b (za9 T C a) (za9 T C b) top Z Q=_;simp only[rSeq,wv,iha,ihb];rfl
 |cond c a b iha ihb=>
  intro top;funext Z Q;show zs3 c a b (za9 T C a) (za9 T C b) top Z Q=_;simp only[zs3,wv,iha,ihb];rfl
 |block id c ih=>
  intro top;funext Z Q;show zs4 id c (za9 T C c) top Z Q=_;simp only[zs4,wv,ih];rfl
 |loop c ih=>
  intro top;funext Z Q;show zs0 T c (za9 T C c) top Z Q=_;simp only[zs0,wv,ih,zkb];rfl
 |rangeFunc f ps a b iha ihb=>
  intro top;funext Z Q;show zk9 T C f ps a b (za9 T C a) (za9 T C b) top Z Q=_;cases top<;>simp only[zk9,wv,iha,ihb]<;>rfl
 |exit id=>intro top;funext Z Q;simp only[wv];rfl
 |scope b ih=>intro top;funext Z Q;simp only[wv];rfl
 |label l=>intro top;funext Z Q;simp only[wv];rfl
 |goto l=>intro top;funext Z Q;simp only[wv];rfl
 |ret=>intro top;funext Z Q;simp only[wv];rfl
 |refuse w=>intro top;funext Z Q;simp only[wv];rfl
