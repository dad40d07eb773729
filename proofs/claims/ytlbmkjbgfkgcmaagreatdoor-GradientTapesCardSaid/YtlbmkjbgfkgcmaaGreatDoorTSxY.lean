/- The symbolic execution by recursors: the same propositions; the kernel finds the same closures that the elaborator leaves. -/
import Derived.Test.YtlbmkjbgfkgcmaaGreatDoorTSxW
set_option linter.all false
namespace Go.Sx
open Go
theorem zkb:∀(l:List Nat)(K:List Nat->Prop),zfj l K=K l
 | [],K=>rfl
 |i::l,K=>by simp only[zfj];rw[zkb l]
abbrev RM:=Bool->St->(Exit->St->Prop)->Prop
def oNil(G:St)(K:St->Prop):Prop:=K G
def qao(T:Tab)(C:Con)(ops:List Oper)(o:Oper)(_:List Oper)(ih:St->(St->Prop)->Prop)(G:St)(K:St->Prop):Prop:=opK1 T C ops o G fun G=>ih G K
noncomputable def qcv(T:Tab)(C:Con)(ops l:List Oper):St->(St->Prop)->Prop:=
 @List.rec Oper (fun _=>St->(St->Prop)->Prop) oNil (qao T C ops) l
def dNil(G:St)(K:List FP->St->Prop):Prop:=K [] G
def qbw(T:Tab)(C:Con)(ops:List Oper)(o:Oper)(_:List Oper)(ih:St->(List FP->St->Prop)->Prop)(G:St)(K:List FP->St->Prop):Prop:=
 opD1 T C ops o G fun fp σ'=>ih σ' fun fps σ''=>K (fp::fps) σ''
noncomputable def opsS(T:Tab)(C:Con)(ops l:List Oper):St->(List FP->St->Prop)->Prop:=
 @List.rec Oper (fun _=>St->(List FP->St->Prop)->Prop) dNil (qbw T C ops) l
theorem zs0(T:Tab)(C:Con)(ops l:List Oper):qcv T C ops l=zyi T C ops l:=by
 induction l with
 |nil=>funext G K;rfl
 |cons o l ih=>
  funext G K
  show qao T C ops o l (qcv T C ops l) G K=_;rw[ih];simp only[qao,zyi]
theorem qal(T:Tab)(C:Con)(ops l:List Oper):opsS T C ops l=qam T C ops l:=by
 induction l with
 |nil=>funext G K;rfl
 |cons o l ih=>
  funext G K
  show qbw T C ops o l (opsS T C ops l) G K=_;rw[ih];simp only[qbw,qam]
def rSkip:RM:=fun _ G Q=>Q .normal G
noncomputable def zm0(T:Tab)(C:Con)(_:Nat)(ops:Array Oper)(draw:Bool):RM:=fun _ G Q=> @Bool.rec (fun _=>Prop)
 (qcv T C ops.toList ops.toList G fun G=>xk (zvh ops.toList) G fun G=>Q .normal G)
 (opsS T C ops.toList ops.toList G fun fps G=>zxb 0 ops.toList fps=true/\Region.lexB .any ops=true/\xk (zvh ops.toList) G fun G=>Q .normal G) draw
def rSeq(_ _:Code)(iha ihb:RM):RM:=fun top G Q=>iha top G fun e G=>match e with
    |.normal =>ihb top G Q
    |.exit i=>Q (.exit i) G
    |.ret =>Q .ret G
    | _=>False
def zsm(c:Operand)(_ _:Code)(iha ihb:RM):RM:=fun top G Q=>match zm G.sl c with
    |.bool t=> @Bool.rec (fun _=>Prop) (ihb top G Q) (iha top G Q) t
    |.ub p q=>(p->iha top G Q)/\(q->ihb top G Q)
    | _=>False
def zsn(id:Nat)(_:Code)(ih:RM):RM:=fun top G Q=>ih top G fun e G=>match e with
    |.normal =>Q .normal G
    |.exit i=>match Nat.beq i id with
      |true=>Q .normal G
      |false=>Q (.exit i) G
    |.ret =>Q .ret G
    | _=>False
def zsj(T:Tab)(c:Code)(ih:RM):RM:=fun top G Q=>∃(X:Type)(I:X->Prop)(us:X->List (Nat×AV))(hu:X->List (Nat×Blk))(μ:X->Nat)(x₀:X),
 I x₀/\(zfj (jn c) fun ws=>zfj (ze T c) fun ds=>zpf ws ds (us x₀) (hu x₀) G (fun H=>leS G H))/\
 ∀x,I x->zfj (jn c) fun ws=>zfj (ze T c) fun ds=>zpf ws ds (us x) (hu x) G fun H=>zde (zeh H.hp) H.ids=true/\
  ih top H fun e σ'=>match e with
   |.normal =>∃x',I x'/\μ x'<μ x/\zpf ws ds (us x') (hu x') G fun τ'=>leS σ' τ'
   |.exit i=>Q (.exit i) σ'
   |.ret =>Q .ret σ'
   | _=>False
def zk5(T:Tab)(C:Con)(f:Operand)(ps:Array Tmp)(asg body:Code)(iha ihb:RM):RM:=fun top G Q=>match top,zm G.sl f with
    |true,.fn g caps=>∃(is:List Nat)(X Y:Type)(hb:X->List Blk)(live:X->Bool)(pend:X->Code)(args:Y->List AV)(next:X->Y->X)(x₀ xE:X)(r:AV)(ib:List Blk),
      qj G.hp is=hb x₀/\live x₀=true/\rfOk T G.hp g is caps ib=true/\zde (ze T asg++ze T body) (zfe is)=true/\(∀x,za2 (hb x)=true/\zck is (hb x)=true)/\(∀y,qap (wk (args y))=true)/\
      (∀(l:Nat)(J:X->GJ),(∀x y,live x=true->C.cb l [(qi,.gst (J x))] (args y) (.bool (live (next x y))) [(qi,.gst (J (next x y)))])->
        C.fn g ((qi,.gst (J x₀))::wh (nub (wk caps)) (qj G.hp (nub (wk caps)))) (.cb l::caps) r ((qi,.gst (J xE))::wh (nub (wk caps)) ib))/\
      (∀x y,live x=true->zmx ps.toList (args y) (zkr is G.sl) fun sl=>
        iha false ⟨sl,zhx (wl (ze T asg++ze T body)) (wh (zfe is) (hb x))⟩ fun e H=>match e with
        |.normal =>ihb false H fun e H=>match e with
          |.normal =>live (next x y)=true/\zqs is (hb (next x y)) H
          |.exit id=>live (next x y)=false/\pend (next x y)=.exit id/\zqs is (hb (next x y)) H
          |.ret =>live (next x y)=false/\pend (next x y)=.ret /\zqs is (hb (next x y)) H
          | _=>False
        | _=>False)/\
      (match G with
        |⟨sl,hp⟩=>zbb hp is (hb xE) fun hp=>zbb hp (nub (wk caps)) ib fun hp=> @Bool.rec (fun _=>Prop)
          (match pend xE with
            |.exit id=>Q (.exit id) ⟨sl,hp⟩
            |.ret =>Q .ret ⟨sl,hp⟩
            | _=>False)
          (Q .normal ⟨sl,hp⟩) (live xE))
    | _,_=>False
def rExit(id:Nat):RM:=fun _ G Q=>Q (.exit id) G
def rRet:RM:=fun _ G Q=>Q .ret G
def rNo:RM:=fun _ _ _=>False
noncomputable def za9(T:Tab)(C:Con)(c:Code):RM:=
 @Code.rec (fun _=>RM) rSkip (zm0 T C) rSeq zsm zsn (zsj T) (zk5 T C) rExit (fun _ _=>rNo) (fun _=>rNo) (fun _=>rNo) rRet (fun _=>rNo) c
theorem zkk(T:Tab)(C:Con):∀(c:Code)(top:Bool),za9 T C c top=ji T C top c:=by
 intro c
 induction c with
 |skip=>intro top;funext G Q;simp only[ji];rfl
 |region id ops draw=>
  intro top;funext G Q;show zm0 T C id ops draw top G Q=_;simp only[zm0,ji,zs0,qal]
 |seq a b iha ihb=>
  intro top;funext G Q;show rSeq a b (za9 T C a) (za9 T C b) top G Q=_;simp only[rSeq,ji,iha,ihb];rfl
 |cond c a b iha ihb=>
  intro top;funext G Q;show zsm c a b (za9 T C a) (za9 T C b) top G Q=_;simp only[zsm,ji,iha,ihb];rfl
 |block id c ih=>
  intro top;funext G Q;show zsn id c (za9 T C c) top G Q=_;simp only[zsn,ji,ih];rfl
 |loop c ih=>
  intro top;funext G Q;show zsj T c (za9 T C c) top G Q=_;simp only[zsj,ji,ih,zkb];rfl
 |rangeFunc f ps a b iha ihb=>
  intro top;funext G Q;show zk5 T C f ps a b (za9 T C a) (za9 T C b) top G Q=_;cases top<;>simp only[zk5,ji,iha,ihb]<;>rfl
 |exit id=>intro top;funext G Q;simp only[ji];rfl
 |scope b ih=>intro top;funext G Q;simp only[ji];rfl
 |label l=>intro top;funext G Q;simp only[ji];rfl
 |goto l=>intro top;funext G Q;simp only[ji];rfl
 |ret=>intro top;funext G Q;simp only[ji];rfl
 |refuse w=>intro top;funext G Q;simp only[ji];rfl
theorem KZ0{P:Prop}(h:P:=by(conv=>whnf);refine And.intro ?_ ?_;repeat' first|refine lc ?_ ?_|exact la0|exact lr rfl|exact ln0|refine lh1 ?_ ?_|exact lh0|exact bf0|exact bd0|refine bc0 ?_|exact bm0 rfl|exact bb0 rfl|exact bg0 rfl|exact li0 rfl|refine lg0 ?_|refine lt0 ?_|exact trivial|exact⟨rfl,rfl⟩|exact ai0 O|exact ai0 (by rw[wI O];omega)|exact ai0 (by rw[wI OD];simp only;omega)|exact bb0 (by assumption)|exact bb0 (Eq.symm (by assumption))|exact ai0 (by rw[wI O])|exact ai0 (by assumption)):P:=h
theorem KXY{P:Prop}(h:P:=by first|exact la0|exact lr rfl|exact ln0|exact lh0|exact bf0|exact bd0|exact bm0 rfl|exact bg0 rfl|exact li0 rfl):P:=h
theorem KXZ{P:Prop}(h:P:=by first|exact la0|exact lr rfl|exact ln0|exact lh0|exact bf0|exact bd0|exact bm0 rfl|exact bb0 rfl|exact bg0 rfl|exact li0 rfl):P:=h
