/- The symbolic execution by recursors: the same propositions; the kernel finds the same closures that the elaborator leaves. -/
import Derived.Test.YtbolipecnhlnnaaGreatDoorLSxW
set_option linter.all false
namespace Go.Sx
open Go
theorem zk0:∀(l:List Nat)(K:List Nat->Prop),zf6 l K=K l
 | [],K=>rfl
 |i::l,K=>by simp only[zf6];rw[zk0 l]
abbrev RM:=Bool->St->(Exit->St->Prop)->Prop
def oNil(G:St)(K:St->Prop):Prop:=K G
def qc6(T:Tab)(C:Con)(ops:List Oper)(o:Oper)(_:List Oper)(ih:St->(St->Prop)->Prop)(G:St)(K:St->Prop):Prop:=opK1 T C ops o G fun G=>ih G K
noncomputable def qas(T:Tab)(C:Con)(ops l:List Oper):St->(St->Prop)->Prop:=
 @List.rec Oper (fun _=>St->(St->Prop)->Prop) oNil (qc6 T C ops) l
def dNil(G:St)(K:List FP->St->Prop):Prop:=K [] G
def qeh(T:Tab)(C:Con)(ops:List Oper)(o:Oper)(_:List Oper)(ih:St->(List FP->St->Prop)->Prop)(G:St)(K:List FP->St->Prop):Prop:=
 opD1 T C ops o G fun fp σ'=>ih σ' fun fps σ''=>K (fp::fps) σ''
noncomputable def opsS(T:Tab)(C:Con)(ops l:List Oper):St->(List FP->St->Prop)->Prop:=
 @List.rec Oper (fun _=>St->(List FP->St->Prop)->Prop) dNil (qeh T C ops) l
theorem zn5(T:Tab)(C:Con)(ops l:List Oper):qas T C ops l=qat T C ops l:=by
 induction l with
 |nil=>funext G K;rfl
 |cons o l ih=>
  funext G K
  show qc6 T C ops o l (qas T C ops l) G K=_;rw[ih];simp only[qc6,qat]
theorem qc2(T:Tab)(C:Con)(ops l:List Oper):opsS T C ops l=qc3 T C ops l:=by
 induction l with
 |nil=>funext G K;rfl
 |cons o l ih=>
  funext G K
  show qeh T C ops o l (opsS T C ops l) G K=_;rw[ih];simp only[qeh,qc3]
def rSkip:RM:=fun _ G Q=>Q .normal G
noncomputable def zn1(T:Tab)(C:Con)(_:Nat)(ops:Array Oper)(draw:Bool):RM:=fun _ G Q=> @Bool.rec (fun _=>Prop)
 (qas T C ops.toList ops.toList G fun G=>xo (zwq ops.toList) G fun G=>Q .normal G)
 (opsS T C ops.toList ops.toList G fun fps G=>zyz 0 ops.toList fps=true/\Region.lexB .any ops=true/\xo (zwq ops.toList) G fun G=>Q .normal G) draw
def rSeq(_ _:Code)(iha ihb:RM):RM:=fun top G Q=>iha top G fun e G=>match e with
    |.normal =>ihb top G Q
    |.exit i=>Q (.exit i) G
    |.ret =>Q .ret G
    | _=>False
def zto(c:Operand)(_ _:Code)(iha ihb:RM):RM:=fun top G Q=>match zk G.sl c with
    |.bool t=> @Bool.rec (fun _=>Prop) (ihb top G Q) (iha top G Q) t
    |.ub p q=>(p->iha top G Q)/\(q->ihb top G Q)
    | _=>False
def ztp(id:Nat)(_:Code)(ih:RM):RM:=fun top G Q=>ih top G fun e G=>match e with
    |.normal =>Q .normal G
    |.exit i=>match Nat.beq i id with
      |true=>Q .normal G
      |false=>Q (.exit i) G
    |.ret =>Q .ret G
    | _=>False
def ztl(T:Tab)(c:Code)(ih:RM):RM:=fun top G Q=>∃(X:Type)(I:X->Prop)(us:X->List (Nat×AV))(hu:X->List (Nat×Blk))(μ:X->Nat)(x₀:X),
 I x₀/\(zf6 (jf c) fun ws=>zf6 (ze T c) fun ds=>zqd ws ds (us x₀) (hu x₀) G (fun H=>leS G H))/\
 ∀x,I x->zf6 (jf c) fun ws=>zf6 (ze T c) fun ds=>zqd ws ds (us x) (hu x) G fun H=>zew (zes H.hp) H.ids=true/\
  ih top H fun e σ'=>match e with
   |.normal =>∃x',I x'/\μ x'<μ x/\zqd ws ds (us x') (hu x') G fun τ'=>leS σ' τ'
   |.exit i=>Q (.exit i) σ'
   |.ret =>Q .ret σ'
   | _=>False
def zlw(T:Tab)(C:Con)(f:Operand)(ps:Array Tmp)(asg body:Code)(iha ihb:RM):RM:=fun top G Q=>match top,zk G.sl f with
    |true,.fn g caps=>∃(is:List Nat)(X Y:Type)(hb:X->List Blk)(live:X->Bool)(pend:X->Code)(args:Y->List AV)(next:X->Y->X)(x₀ xE:X)(r:AV)(ib:List Blk),
      qn G.hp is=hb x₀/\live x₀=true/\rfOk T G.hp g is caps ib=true/\zew (ze T asg++ze T body) (zf0 is)=true/\(∀x,zbc (hb x)=true/\zcu is (hb x)=true)/\(∀y,qc7 (wd (args y))=true)/\
      (∀(l:Nat)(J:X->GJ),(∀x y,live x=true->C.cb l [(qa,.gst (J x))] (args y) (.bool (live (next x y))) [(qa,.gst (J (next x y)))])->
        C.fn g ((qa,.gst (J x₀))::wa (nub (wd caps)) (qn G.hp (nub (wd caps)))) (.cb l::caps) r ((qa,.gst (J xE))::wa (nub (wd caps)) ib))/\
      (∀x y,live x=true->znx ps.toList (args y) (zlg is G.sl) fun sl=>
        iha false ⟨sl,zii (wb (ze T asg++ze T body)) (wa (zf0 is) (hb x))⟩ fun e H=>match e with
        |.normal =>ihb false H fun e H=>match e with
          |.normal =>live (next x y)=true/\zro is (hb (next x y)) H
          |.exit id=>live (next x y)=false/\pend (next x y)=.exit id/\zro is (hb (next x y)) H
          |.ret =>live (next x y)=false/\pend (next x y)=.ret /\zro is (hb (next x y)) H
          | _=>False
        | _=>False)/\
      (match G with
        |⟨sl,hp⟩=>zbo hp is (hb xE) fun hp=>zbo hp (nub (wd caps)) ib fun hp=> @Bool.rec (fun _=>Prop)
          (match pend xE with
            |.exit id=>Q (.exit id) ⟨sl,hp⟩
            |.ret =>Q .ret ⟨sl,hp⟩
            | _=>False)
          (Q .normal ⟨sl,hp⟩) (live xE))
    | _,_=>False
def rExit(id:Nat):RM:=fun _ G Q=>Q (.exit id) G
def rRet:RM:=fun _ G Q=>Q .ret G
def rNo:RM:=fun _ _ _=>False
noncomputable def zbi(T:Tab)(C:Con)(c:Code):RM:=
 @Code.rec (fun _=>RM) rSkip (zn1 T C) rSeq zto ztp (ztl T) (zlw T C) rExit (fun _ _=>rNo) (fun _=>rNo) (fun _=>rNo) rRet (fun _=>rNo) c
theorem zk8(T:Tab)(C:Con):∀(c:Code)(top:Bool),zbi T C c top=jb T C top c:=by
 intro c
 induction c with
 |skip=>intro top;funext G Q;simp only[jb];rfl
 |region id ops draw=>
  intro top;funext G Q;show zn1 T C id ops draw top G Q=_;simp only[zn1,jb,zn5,qc2]
 |seq a b iha ihb=>
  intro top;funext G Q;show rSeq a b (zbi T C a) (zbi T C b) top G Q=_;simp only[rSeq,jb,iha,ihb];rfl
 |cond c a b iha ihb=>
  intro top;funext G Q;show zto c a b (zbi T C a) (zbi T C b) top G Q=_;simp only[zto,jb,iha,ihb];rfl
 |block id c ih=>
  intro top;funext G Q;show ztp id c (zbi T C c) top G Q=_;simp only[ztp,jb,ih];rfl
 |loop c ih=>
  intro top;funext G Q;show ztl T c (zbi T C c) top G Q=_;simp only[ztl,jb,ih,zk0];rfl
 |rangeFunc f ps a b iha ihb=>
  intro top;funext G Q;show zlw T C f ps a b (zbi T C a) (zbi T C b) top G Q=_;cases top<;>simp only[zlw,jb,iha,ihb]<;>rfl
 |exit id=>intro top;funext G Q;simp only[jb];rfl
 |scope b ih=>intro top;funext G Q;simp only[jb];rfl
 |label l=>intro top;funext G Q;simp only[jb];rfl
 |goto l=>intro top;funext G Q;simp only[jb];rfl
 |ret=>intro top;funext G Q;simp only[jb];rfl
 |refuse w=>intro top;funext G Q;simp only[jb];rfl
theorem KZ0{P:Prop}(h:P:=by(conv=>whnf);refine And.intro ?_ ?_;repeat' first|refine lc ?_ ?_|exact la0|exact lr rfl|exact ln0|refine lh1 ?_ ?_|exact lh0|exact bf0|exact bd0|refine bc0 ?_|exact bm0 rfl|exact bb0 rfl|exact bg0 rfl|exact li0 rfl|refine lg0 ?_|refine lt0 ?_|exact trivial|exact⟨rfl,rfl⟩|exact ai0 O|exact ai0 (by rw[wI O];omega)|exact ai0 (by rw[wI OD];simp only;omega)|exact bb0 (by assumption)|exact bb0 (Eq.symm (by assumption))|exact ai0 (by rw[wI O])|exact ai0 (by assumption)):P:=h
theorem KXY{P:Prop}(h:P:=by first|exact la0|exact lr rfl|exact ln0|exact lh0|exact bf0|exact bd0|exact bm0 rfl|exact bg0 rfl|exact li0 rfl):P:=h
theorem KXZ{P:Prop}(h:P:=by first|exact la0|exact lr rfl|exact ln0|exact lh0|exact bf0|exact bd0|exact bm0 rfl|exact bb0 rfl|exact bg0 rfl|exact li0 rfl):P:=h
