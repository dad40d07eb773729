/- The symbolic execution by recursors: the same propositions; the kernel finds the same closures that the elaborator leaves. -/
import Derived.Test.YtlbmkjbgfkgcmaaGreatDoorSSxW
set_option linter.all false
namespace Go.Sx
open Go
theorem zjl:∀(l:List Nat)(K:List Nat->Prop),ze3 l K=K l
 | [],K=>rfl
 |i::l,K=>by simp only[ze3];rw[zjl l]
abbrev RM:=Bool->St->(Exit->St->Prop)->Prop
def oNil(G:St)(K:St->Prop):Prop:=K G
def zz8(T:Tab)(C:Con)(ops:List Oper)(o:Oper)(_:List Oper)(ih:St->(St->Prop)->Prop)(G:St)(K:St->Prop):Prop:=opK1 T C ops o G fun G=>ih G K
noncomputable def qca(T:Tab)(C:Con)(ops l:List Oper):St->(St->Prop)->Prop:=
 @List.rec Oper (fun _=>St->(St->Prop)->Prop) oNil (zz8 T C ops) l
def dNil(G:St)(K:List FP->St->Prop):Prop:=K [] G
def qbc(T:Tab)(C:Con)(ops:List Oper)(o:Oper)(_:List Oper)(ih:St->(List FP->St->Prop)->Prop)(G:St)(K:List FP->St->Prop):Prop:=
 opD1 T C ops o G fun fp σ'=>ih σ' fun fps σ''=>K (fp::fps) σ''
noncomputable def opsS(T:Tab)(C:Con)(ops l:List Oper):St->(List FP->St->Prop)->Prop:=
 @List.rec Oper (fun _=>St->(List FP->St->Prop)->Prop) dNil (qbc T C ops) l
theorem zsa(T:Tab)(C:Con)(ops l:List Oper):qca T C ops l=zx3 T C ops l:=by
 induction l with
 |nil=>funext G K;rfl
 |cons o l ih=>
  funext G K
  show zz8 T C ops o l (qca T C ops l) G K=_;rw[ih];simp only[zz8,zx3]
theorem zz4(T:Tab)(C:Con)(ops l:List Oper):opsS T C ops l=zz5 T C ops l:=by
 induction l with
 |nil=>funext G K;rfl
 |cons o l ih=>
  funext G K
  show qbc T C ops o l (opsS T C ops l) G K=_;rw[ih];simp only[qbc,zz5]
def rSkip:RM:=fun _ G Q=>Q .normal G
noncomputable def zmd(T:Tab)(C:Con)(_:Nat)(ops:Array Oper)(draw:Bool):RM:=fun _ G Q=> @Bool.rec (fun _=>Prop)
 (qca T C ops.toList ops.toList G fun G=>xc (zu0 ops.toList) G fun G=>Q .normal G)
 (opsS T C ops.toList ops.toList G fun fps G=>zwt 0 ops.toList fps=true/\Region.lexB .any ops=true/\xc (zu0 ops.toList) G fun G=>Q .normal G) draw
def rSeq(_ _:Code)(iha ihb:RM):RM:=fun top G Q=>iha top G fun e G=>match e with
    |.normal =>ihb top G Q
    |.exit i=>Q (.exit i) G
    |.ret =>Q .ret G
    | _=>False
def zru(c:Operand)(_ _:Code)(iha ihb:RM):RM:=fun top G Q=>match zf G.sl c with
    |.bool t=> @Bool.rec (fun _=>Prop) (ihb top G Q) (iha top G Q) t
    |.ub p q=>(p->iha top G Q)/\(q->ihb top G Q)
    | _=>False
def zrv(id:Nat)(_:Code)(ih:RM):RM:=fun top G Q=>ih top G fun e G=>match e with
    |.normal =>Q .normal G
    |.exit i=>match Nat.beq i id with
      |true=>Q .normal G
      |false=>Q (.exit i) G
    |.ret =>Q .ret G
    | _=>False
def zrr(T:Tab)(c:Code)(ih:RM):RM:=fun top G Q=>∃(X:Type)(I:X->Prop)(us:X->List (Nat×AV))(hu:X->List (Nat×Blk))(μ:X->Nat)(x₀:X),
 I x₀/\(ze3 (je c) fun ws=>ze3 (zc T c) fun ds=>zos ws ds (us x₀) (hu x₀) G (fun H=>leS G H))/\
 ∀x,I x->ze3 (je c) fun ws=>ze3 (zc T c) fun ds=>zos ws ds (us x) (hu x) G fun H=>zc5 (zej H.hp) H.ids=true/\
  ih top H fun e σ'=>match e with
   |.normal =>∃x',I x'/\μ x'<μ x/\zos ws ds (us x') (hu x') G fun τ'=>leS σ' τ'
   |.exit i=>Q (.exit i) σ'
   |.ret =>Q .ret σ'
   | _=>False
def zkf(T:Tab)(C:Con)(f:Operand)(ps:Array Tmp)(asg body:Code)(iha ihb:RM):RM:=fun top G Q=>match top,zf G.sl f with
    |true,.fn g caps=>∃(is:List Nat)(X Y:Type)(hb:X->List Blk)(live:X->Bool)(pend:X->Code)(args:Y->List AV)(next:X->Y->X)(x₀ xE:X)(r:AV)(ib:List Blk),
      qi G.hp is=hb x₀/\live x₀=true/\rfOk T G.hp g is caps ib=true/\zc5 (zc T asg++zc T body) (zex is)=true/\(∀x,zaw (hb x)=true/\zb7 is (hb x)=true)/\(∀y,zz9 (wd (args y))=true)/\
      (∀(l:Nat)(J:X->GJ),(∀x y,live x=true->C.cb l [(qo,.gst (J x))] (args y) (.bool (live (next x y))) [(qo,.gst (J (next x y)))])->
        C.fn g ((qo,.gst (J x₀))::wb (nub (wd caps)) (qi G.hp (nub (wd caps)))) (.cb l::caps) r ((qo,.gst (J xE))::wb (nub (wd caps)) ib))/\
      (∀x y,live x=true->zma ps.toList (args y) (zj3 is G.sl) fun sl=>
        iha false ⟨sl,zha (wg (zc T asg++zc T body)) (wb (zex is) (hb x))⟩ fun e H=>match e with
        |.normal =>ihb false H fun e H=>match e with
          |.normal =>live (next x y)=true/\zp3 is (hb (next x y)) H
          |.exit id=>live (next x y)=false/\pend (next x y)=.exit id/\zp3 is (hb (next x y)) H
          |.ret =>live (next x y)=false/\pend (next x y)=.ret /\zp3 is (hb (next x y)) H
          | _=>False
        | _=>False)/\
      (match G with
        |⟨sl,hp⟩=>za5 hp is (hb xE) fun hp=>za5 hp (nub (wd caps)) ib fun hp=> @Bool.rec (fun _=>Prop)
          (match pend xE with
            |.exit id=>Q (.exit id) ⟨sl,hp⟩
            |.ret =>Q .ret ⟨sl,hp⟩
            | _=>False)
          (Q .normal ⟨sl,hp⟩) (live xE))
    | _,_=>False
def rExit(id:Nat):RM:=fun _ G Q=>Q (.exit id) G
def rRet:RM:=fun _ G Q=>Q .ret G
def rNo:RM:=fun _ _ _=>False
noncomputable def za2(T:Tab)(C:Con)(c:Code):RM:=
 @Code.rec (fun _=>RM) rSkip (zmd T C) rSeq zru zrv (zrr T) (zkf T C) rExit (fun _ _=>rNo) (fun _=>rNo) (fun _=>rNo) rRet (fun _=>rNo) c
theorem zjv(T:Tab)(C:Con):∀(c:Code)(top:Bool),za2 T C c top=wz T C top c:=by
 intro c
 induction c with
 |skip=>intro top;funext G Q;simp only[wz];rfl
 |region id ops draw=>
  intro top;funext G Q;show zmd T C id ops draw top G Q=_;simp only[zmd,wz,zsa,zz4]
 |seq a b iha ihb=>
  intro top;funext G Q;show rSeq a b (za2 T C a) (za2 T C b) top G Q=_;simp only[rSeq,wz,iha,ihb];rfl
 |cond c a b iha ihb=>
  intro top;funext G Q;show zru c a b (za2 T C a) (za2 T C b) top G Q=_;simp only[zru,wz,iha,ihb];rfl
 |block id c ih=>
  intro top;funext G Q;show zrv id c (za2 T C c) top G Q=_;simp only[zrv,wz,ih];rfl
 |loop c ih=>
  intro top;funext G Q;show zrr T c (za2 T C c) top G Q=_;simp only[zrr,wz,ih,zjl];rfl
 |rangeFunc f ps a b iha ihb=>
  intro top;funext G Q;show zkf T C f ps a b (za2 T C a) (za2 T C b) top G Q=_;cases top<;>simp only[zkf,wz,iha,ihb]<;>rfl
 |exit id=>intro top;funext G Q;simp only[wz];rfl
 |scope b ih=>intro top;funext G Q;simp only[wz];rfl
 |label l=>intro top;funext G Q;simp only[wz];rfl
 |goto l=>intro top;funext G Q;simp only[wz];rfl
 |ret=>intro top;funext G Q;simp only[wz];rfl
 |refuse w=>intro top;funext G Q;simp only[wz];rfl
theorem KZ0{P:Prop}(h:P:=by(conv=>whnf);refine And.intro ?_ ?_;repeat' first|refine lc ?_ ?_|exact la0|exact lr rfl|exact ln0|refine lh1 ?_ ?_|exact lh0|exact bf0|exact bd0|refine bc0 ?_|exact bm0 rfl|exact bb0 rfl|exact bg0 rfl|exact li0 rfl|refine lg0 ?_|refine lt0 ?_|exact trivial|exact⟨rfl,rfl⟩|exact ai0 O|exact ai0 (by rw[wI O];omega)|exact ai0 (by rw[wI OD];simp only;omega)|exact bb0 (by assumption)|exact bb0 (Eq.symm (by assumption))|exact ai0 (by rw[wI O])|exact ai0 (by assumption)):P:=h
theorem KXY{P:Prop}(h:P:=by first|exact la0|exact lr rfl|exact ln0|exact lh0|exact bf0|exact bd0|exact bm0 rfl|exact bg0 rfl|exact li0 rfl):P:=h
theorem KXZ{P:Prop}(h:P:=by first|exact la0|exact lr rfl|exact ln0|exact lh0|exact bf0|exact bd0|exact bm0 rfl|exact bb0 rfl|exact bg0 rfl|exact li0 rfl):P:=h
