/- The symbolic execution by recursors: the same propositions; the kernel finds the same closures that the elaborator leaves. -/
import Derived.Test.YthbgbmdmimejiaaGreatDoorJSxW
set_option linter.all false
namespace Go.Sx
open Go
theorem ziy:∀(l:List Nat)(K:List Nat->Prop),zef l K=K l
 | [],K=>rfl
 |i::l,K=>by simp only[zef];rw[ziy l]
abbrev RM:=Bool->St->(Exit->St->Prop)->Prop
def oNil(G:St)(K:St->Prop):Prop:=K G
def zzv(T:Tab)(C:Con)(ops:List Oper)(o:Oper)(_:List Oper)(ih:St->(St->Prop)->Prop)(G:St)(K:St->Prop):Prop:=opK1 T C ops o G fun G=>ih G K
noncomputable def zxm(T:Tab)(C:Con)(ops l:List Oper):St->(St->Prop)->Prop:=
 @List.rec Oper (fun _=>St->(St->Prop)->Prop) oNil (zzv T C ops) l
def dNil(G:St)(K:List FP->St->Prop):Prop:=K [] G
def qaz(T:Tab)(C:Con)(ops:List Oper)(o:Oper)(_:List Oper)(ih:St->(List FP->St->Prop)->Prop)(G:St)(K:List FP->St->Prop):Prop:=
 opD1 T C ops o G fun fp σ'=>ih σ' fun fps σ''=>K (fp::fps) σ''
noncomputable def opsS(T:Tab)(C:Con)(ops l:List Oper):St->(List FP->St->Prop)->Prop:=
 @List.rec Oper (fun _=>St->(List FP->St->Prop)->Prop) dNil (qaz T C ops) l
theorem zr8(T:Tab)(C:Con)(ops l:List Oper):zxm T C ops l=zxn T C ops l:=by
 induction l with
 |nil=>funext G K;rfl
 |cons o l ih=>
  funext G K
  show zzv T C ops o l (zxm T C ops l) G K=_;rw[ih];simp only[zzv,zxn]
theorem zzm(T:Tab)(C:Con)(ops l:List Oper):opsS T C ops l=zzn T C ops l:=by
 induction l with
 |nil=>funext G K;rfl
 |cons o l ih=>
  funext G K
  show qaz T C ops o l (opsS T C ops l) G K=_;rw[ih];simp only[qaz,zzn]
def rSkip:RM:=fun _ G Q=>Q .normal G
noncomputable def zls(T:Tab)(C:Con)(_:Nat)(ops:Array Oper)(draw:Bool):RM:=fun _ G Q=> @Bool.rec (fun _=>Prop)
 (zxm T C ops.toList ops.toList G fun G=>ym (zut ops.toList) G fun G=>Q .normal G)
 (opsS T C ops.toList ops.toList G fun fps G=>zwd 0 ops.toList fps=true/\Region.lexB .any ops=true/\ym (zut ops.toList) G fun G=>Q .normal G) draw
def rSeq(_ _:Code)(iha ihb:RM):RM:=fun top G Q=>iha top G fun e G=>match e with
    |.normal =>ihb top G Q
    |.exit i=>Q (.exit i) G
    |.ret =>Q .ret G
    | _=>False
def zrx(c:Operand)(_ _:Code)(iha ihb:RM):RM:=fun top G Q=>match zg G.sl c with
    |.bool t=> @Bool.rec (fun _=>Prop) (ihb top G Q) (iha top G Q) t
    |.ub p q=>(p->iha top G Q)/\(q->ihb top G Q)
    | _=>False
def zry(id:Nat)(_:Code)(ih:RM):RM:=fun top G Q=>ih top G fun e G=>match e with
    |.normal =>Q .normal G
    |.exit i=>match Nat.beq i id with
      |true=>Q .normal G
      |false=>Q (.exit i) G
    |.ret =>Q .ret G
    | _=>False
def zrv(T:Tab)(c:Code)(ih:RM):RM:=fun top G Q=>∃(X:Type)(I:X->Prop)(us:X->List (Nat×AV))(hu:X->List (Nat×Blk))(μ:X->Nat)(x₀:X),
 I x₀/\(zef (jg c) fun ws=>zef (za T c) fun ds=>zob ws ds (us x₀) (hu x₀) G (fun H=>leS G H))/\
 ∀x,I x->zef (jg c) fun ws=>zef (za T c) fun ds=>zob ws ds (us x) (hu x) G fun H=>xr (zcg H.hp) H.ids=true/\
  ih top H fun e σ'=>match e with
   |.normal =>∃x',I x'/\μ x'<μ x/\zob ws ds (us x') (hu x') G fun τ'=>leS σ' τ'
   |.exit i=>Q (.exit i) σ'
   |.ret =>Q .ret σ'
   | _=>False
def zjs(T:Tab)(C:Con)(f:Operand)(ps:Array Tmp)(asg body:Code)(iha ihb:RM):RM:=fun top G Q=>match top,zg G.sl f with
    |true,.fn g caps=>∃(is:List Nat)(X Y:Type)(hb:X->List Blk)(live:X->Bool)(pend:X->Code)(args:Y->List AV)(next:X->Y->X)(x₀ xE:X)(r:AV)(ib:List Blk),
      zw G.hp is=hb x₀/\live x₀=true/\rfOk T G.hp g is caps ib=true/\xr (za T asg++za T body) (zar is)=true/\(∀x,zaf (hb x)=true/\xo is (hb x)=true)/\(∀y,znj (qf (args y))=true)/\
      (∀(l:Nat)(J:X->GJ),(∀x y,live x=true->C.cb l [(qc,.gst (J x))] (args y) (.bool (live (next x y))) [(qc,.gst (J (next x y)))])->
        C.fn g ((qc,.gst (J x₀))::zz (nub (qf caps)) (zw G.hp (nub (qf caps)))) (.cb l::caps) r ((qc,.gst (J xE))::zz (nub (qf caps)) ib))/\
      (∀x y,live x=true->zb6 ps.toList (args y) (zb5 is G.sl) fun sl=>
        iha false ⟨sl,zbg (qa (za T asg++za T body)) (zz (zar is) (hb x))⟩ fun e H=>match e with
        |.normal =>ihb false H fun e H=>match e with
          |.normal =>live (next x y)=true/\zi5 is (hb (next x y)) H
          |.exit id=>live (next x y)=false/\pend (next x y)=.exit id/\zi5 is (hb (next x y)) H
          |.ret =>live (next x y)=false/\pend (next x y)=.ret /\zi5 is (hb (next x y)) H
          | _=>False
        | _=>False)/\
      (match G with
        |⟨sl,hp⟩=>zab hp is (hb xE) fun hp=>zab hp (nub (qf caps)) ib fun hp=> @Bool.rec (fun _=>Prop)
          (match pend xE with
            |.exit id=>Q (.exit id) ⟨sl,hp⟩
            |.ret =>Q .ret ⟨sl,hp⟩
            | _=>False)
          (Q .normal ⟨sl,hp⟩) (live xE))
    | _,_=>False
def rExit(id:Nat):RM:=fun _ G Q=>Q (.exit id) G
def rRet:RM:=fun _ G Q=>Q .ret G
def rNo:RM:=fun _ _ _=>False
noncomputable def zan(T:Tab)(C:Con)(c:Code):RM:=
 @Code.rec (fun _=>RM) rSkip (zls T C) rSeq zrx zry (zrv T) (zjs T C) rExit (fun _ _=>rNo) (fun _=>rNo) (fun _=>rNo) rRet (fun _=>rNo) c
theorem yd(T:Tab)(C:Con):∀(c:Code)(top:Bool),zan T C c top=vl T C top c:=by
 intro c
 induction c with
 |skip=>intro top;funext G Q;simp only[vl];rfl
 |region id ops draw=>
  intro top;funext G Q;show zls T C id ops draw top G Q=_;simp only[zls,vl,zr8,zzm]
 |seq a b iha ihb=>
  intro top;funext G Q;show rSeq a b (zan T C a) (zan T C b) top G Q=_;simp only[rSeq,vl,iha,ihb];rfl
 |cond c a b iha ihb=>
  intro top;funext G Q;show zrx c a b (zan T C a) (zan T C b) top G Q=_;simp only[zrx,vl,iha,ihb];rfl
 |block id c ih=>
  intro top;funext G Q;show zry id c (zan T C c) top G Q=_;simp only[zry,vl,ih];rfl
 |loop c ih=>
  intro top;funext G Q;show zrv T c (zan T C c) top G Q=_;simp only[zrv,vl,ih,ziy];rfl
 |rangeFunc f ps a b iha ihb=>
  intro top;funext G Q;show zjs T C f ps a b (zan T C a) (zan T C b) top G Q=_;cases top<;>simp only[zjs,vl,iha,ihb]<;>rfl
 |exit id=>intro top;funext G Q;simp only[vl];rfl
 |scope b ih=>intro top;funext G Q;simp only[vl];rfl
 |label l=>intro top;funext G Q;simp only[vl];rfl
 |goto l=>intro top;funext G Q;simp only[vl];rfl
 |ret=>intro top;funext G Q;simp only[vl];rfl
 |refuse w=>intro top;funext G Q;simp only[vl];rfl
theorem KZ0{P:Prop}(h:P:=by(conv=>whnf);refine And.intro ?_ ?_;repeat' first|refine lc ?_ ?_|exact la0|exact lr rfl|exact ln0|refine lh1 ?_ ?_|exact lh0|exact bf0|exact bd0|refine bc0 ?_|exact bm0 rfl|exact bb0 rfl|exact bg0 rfl|exact li0 rfl|refine lg0 ?_|refine lt0 ?_|exact trivial|exact⟨rfl,rfl⟩|exact ai0 O|exact ai0 (by rw[wI O];omega)|exact ai0 (by rw[wI OD];simp only;omega)|exact bb0 (by assumption)|exact bb0 (Eq.symm (by assumption))|exact ai0 (by rw[wI O])|exact ai0 (by assumption)):P:=h
theorem KXY{P:Prop}(h:P:=by first|exact la0|exact lr rfl|exact ln0|exact lh0|exact bf0|exact bd0|exact bm0 rfl|exact bg0 rfl|exact li0 rfl):P:=h
theorem KXZ{P:Prop}(h:P:=by first|exact la0|exact lr rfl|exact ln0|exact lh0|exact bf0|exact bd0|exact bm0 rfl|exact bb0 rfl|exact bg0 rfl|exact li0 rfl):P:=h
