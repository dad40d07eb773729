/- The symbolic execution by recursors: the same propositions; the kernel finds the same closures that the elaborator leaves. -/
import Derived.Test.YthbgbmdmimejiaaGreatDoorMSxW
set_option linter.all false
namespace Go.Sx
open Go
theorem zls:∀(l:List Nat)(K:List Nat->Prop),zgg l K=K l
 | [],K=>rfl
 |i::l,K=>by simp only[zgg];rw[zls l]
abbrev RM:=Bool->St->(Exit->St->Prop)->Prop
def oNil(G:St)(K:St->Prop):Prop:=K G
def qff(T:Tab)(C:Con)(ops:List Oper)(o:Oper)(_:List Oper)(ih:St->(St->Prop)->Prop)(G:St)(K:St->Prop):Prop:=opK1 T C ops o G fun G=>ih G K
noncomputable def opsR(T:Tab)(C:Con)(ops l:List Oper):St->(St->Prop)->Prop:=
 @List.rec Oper (fun _=>St->(St->Prop)->Prop) oNil (qff T C ops) l
def dNil(G:St)(K:List FP->St->Prop):Prop:=K [] G
def qgr(T:Tab)(C:Con)(ops:List Oper)(o:Oper)(_:List Oper)(ih:St->(List FP->St->Prop)->Prop)(G:St)(K:List FP->St->Prop):Prop:=
 opD1 T C ops o G fun fp σ'=>ih σ' fun fps σ''=>K (fp::fps) σ''
noncomputable def opsS(T:Tab)(C:Con)(ops l:List Oper):St->(List FP->St->Prop)->Prop:=
 @List.rec Oper (fun _=>St->(List FP->St->Prop)->Prop) dNil (qgr T C ops) l
theorem qfa(T:Tab)(C:Con)(ops l:List Oper):opsR T C ops l=qho T C ops l:=by
 induction l with
 |nil=>funext G K;rfl
 |cons o l ih=>
  funext G K
  show qff T C ops o l (opsR T C ops l) G K=_;rw[ih];simp only[qff,qho]
theorem qe9(T:Tab)(C:Con)(ops l:List Oper):opsS T C ops l=qfb T C ops l:=by
 induction l with
 |nil=>funext G K;rfl
 |cons o l ih=>
  funext G K
  show qgr T C ops o l (opsS T C ops l) G K=_;rw[ih];simp only[qgr,qfb]
def rSkip:RM:=fun _ G Q=>Q .normal G
noncomputable def zov(T:Tab)(C:Con)(_:Nat)(ops:Array Oper)(draw:Bool):RM:=fun _ G Q=> @Bool.rec (fun _=>Prop)
 (opsR T C ops.toList ops.toList G fun G=>zak (zy4 ops.toList) G fun G=>Q .normal G)
 (opsS T C ops.toList ops.toList G fun fps G=>qav 0 ops.toList fps=true/\Region.lexB .any ops=true/\zak (zy4 ops.toList) G fun G=>Q .normal G) draw
def rSeq(_ _:Code)(iha ihb:RM):RM:=fun top G Q=>iha top G fun e G=>match e with
    |.normal =>ihb top G Q
    |.exit i=>Q (.exit i) G
    |.ret =>Q .ret G
    | _=>False
def zvi(c:Operand)(_ _:Code)(iha ihb:RM):RM:=fun top G Q=>match zj G.sl c with
    |.bool t=> @Bool.rec (fun _=>Prop) (ihb top G Q) (iha top G Q) t
    |.ub p q=>(p->iha top G Q)/\(q->ihb top G Q)
    | _=>False
def zvj(id:Nat)(_:Code)(ih:RM):RM:=fun top G Q=>ih top G fun e G=>match e with
    |.normal =>Q .normal G
    |.exit i=>match Nat.beq i id with
      |true=>Q .normal G
      |false=>Q (.exit i) G
    |.ret =>Q .ret G
    | _=>False
def zvg(T:Tab)(c:Code)(ih:RM):RM:=fun top G Q=>∃(X:Type)(I:X->Prop)(us:X->List (Nat×AV))(hu:X->List (Nat×Blk))(μ:X->Nat)(x₀:X),
 I x₀/\(zgg (jr c) fun ws=>zgg (zc T c) fun ds=>zrf ws ds (us x₀) (hu x₀) G (fun H=>leS G H))/\
 ∀x,I x->zgg (jr c) fun ws=>zgg (zc T c) fun ds=>zrf ws ds (us x) (hu x) G fun H=>zgh (zih H.hp) H.ids=true/\
  ih top H fun e σ'=>match e with
   |.normal =>∃x',I x'/\μ x'<μ x/\zrf ws ds (us x') (hu x') G fun τ'=>leS σ' τ'
   |.exit i=>Q (.exit i) σ'
   |.ret =>Q .ret σ'
   | _=>False
def zmr(T:Tab)(C:Con)(f:Operand)(ps:Array Tmp)(asg body:Code)(iha ihb:RM):RM:=fun top G Q=>match top,zj G.sl f with
    |true,.fn g caps=>∃(is:List Nat)(X Y:Type)(hb:X->List Blk)(live:X->Bool)(pend:X->Code)(args:Y->List AV)(next:X->Y->X)(x₀ xE:X)(r:AV)(ib:List Blk),
      qf G.hp is=hb x₀/\live x₀=true/\rfOk T G.hp g is caps ib=true/\zgh (zc T asg++zc T body) (zgb is)=true/\(∀x,zbt (hb x)=true/\zde is (hb x)=true)/\(∀y,qfh (jc (args y))=true)/\
      (∀(l:Nat)(J:X->GJ),(∀x y,live x=true->C.cb l [(jh,.gst (J x))] (args y) (.bool (live (next x y))) [(jh,.gst (J (next x y)))])->
        C.fn g ((jh,.gst (J x₀))::ww (nub (jc caps)) (qf G.hp (nub (jc caps)))) (.cb l::caps) r ((jh,.gst (J xE))::ww (nub (jc caps)) ib))/\
      (∀x y,live x=true->zop ps.toList (args y) (zl8 is G.sl) fun sl=>
        iha false ⟨sl,zi9 (ja (zc T asg++zc T body)) (ww (zgb is) (hb x))⟩ fun e H=>match e with
        |.normal =>ihb false H fun e H=>match e with
          |.normal =>live (next x y)=true/\zro is (hb (next x y)) H
          |.exit id=>live (next x y)=false/\pend (next x y)=.exit id/\zro is (hb (next x y)) H
          |.ret =>live (next x y)=false/\pend (next x y)=.ret /\zro is (hb (next x y)) H
          | _=>False
        | _=>False)/\
      (match G with
        |⟨sl,hp⟩=>zb5 hp is (hb xE) fun hp=>zb5 hp (nub (jc caps)) ib fun hp=> @Bool.rec (fun _=>Prop)
          (match pend xE with
            |.exit id=>Q (.exit id) ⟨sl,hp⟩
            |.ret =>Q .ret ⟨sl,hp⟩
            | _=>False)
          (Q .normal ⟨sl,hp⟩) (live xE))
    | _,_=>False
def rExit(id:Nat):RM:=fun _ G Q=>Q (.exit id) G
def rRet:RM:=fun _ G Q=>Q .ret G
def rNo:RM:=fun _ _ _=>False
noncomputable def zbz(T:Tab)(C:Con)(c:Code):RM:=
 @Code.rec (fun _=>RM) rSkip (zov T C) rSeq zvi zvj (zvg T) (zmr T C) rExit (fun _ _=>rNo) (fun _=>rNo) (fun _=>rNo) rRet (fun _=>rNo) c
theorem zl2(T:Tab)(C:Con):∀(c:Code)(top:Bool),zbz T C c top=jl T C top c:=by
 intro c
 induction c with
 |skip=>intro top;funext G Q;simp only[jl];rfl
 |region id ops draw=>
  intro top;funext G Q;show zov T C id ops draw top G Q=_;simp only[zov,jl,qfa,qe9]
 |seq a b iha ihb=>
  intro top;funext G Q;show rSeq a b (zbz T C a) (zbz T C b) top G Q=_;simp only[rSeq,jl,iha,ihb];rfl
 |cond c a b iha ihb=>
  intro top;funext G Q;show zvi c a b (zbz T C a) (zbz T C b) top G Q=_;simp only[zvi,jl,iha,ihb];rfl
 |block id c ih=>
  intro top;funext G Q;show zvj id c (zbz T C c) top G Q=_;simp only[zvj,jl,ih];rfl
 |loop c ih=>
  intro top;funext G Q;show zvg T c (zbz T C c) top G Q=_;simp only[zvg,jl,ih,zls];rfl
 |rangeFunc f ps a b iha ihb=>
  intro top;funext G Q;show zmr T C f ps a b (zbz T C a) (zbz T C b) top G Q=_;cases top<;>simp only[zmr,jl,iha,ihb]<;>rfl
 |exit id=>intro top;funext G Q;simp only[jl];rfl
 |scope b ih=>intro top;funext G Q;simp only[jl];rfl
 |label l=>intro top;funext G Q;simp only[jl];rfl
 |goto l=>intro top;funext G Q;simp only[jl];rfl
 |ret=>intro top;funext G Q;simp only[jl];rfl
 |refuse w=>intro top;funext G Q;simp only[jl];rfl
theorem KZ0{P:Prop}(h:P:=by(conv=>whnf);refine And.intro ?_ ?_;repeat' first|refine lc ?_ ?_|exact la0|exact lr rfl|exact ln0|refine lh1 ?_ ?_|exact lh0|exact bf0|exact bd0|refine bc0 ?_|exact bm0 rfl|exact bb0 rfl|exact bg0 rfl|exact li0 rfl|refine lg0 ?_|refine lt0 ?_|exact trivial|exact⟨rfl,rfl⟩|exact ai0 O|exact ai0 (by rw[wI O];omega)|exact ai0 (by rw[wI OD];simp only;omega)|exact bb0 (by assumption)|exact bb0 (Eq.symm (by assumption))|exact ai0 (by rw[wI O])|exact ai0 (by assumption)):P:=h
theorem KXY{P:Prop}(h:P:=by first|exact la0|exact lr rfl|exact ln0|exact lh0|exact bf0|exact bd0|exact bm0 rfl|exact bg0 rfl|exact li0 rfl):P:=h
theorem KXZ{P:Prop}(h:P:=by first|exact la0|exact lr rfl|exact ln0|exact lh0|exact bf0|exact bd0|exact bm0 rfl|exact bb0 rfl|exact bg0 rfl|exact li0 rfl):P:=h
