/- The tape: the type table with the maps of operations. -/
import Derived.Test.YthbgbmdmimejiaaGreatDoorJUa
import Derived.Test.YthbgbmdmimejiaaGreatDoorJVa
set_option linter.all false
open And renaming intro->q3
open List renaming drop_of_length_le->q0,mem_of_getElem?->q1,length_take->q4,length_cons->q5,any_eq_true->q6,length_nil->q7
open Nat renaming beq->q2
open Go.Region renaming binds->q8
namespace Go.Proofs.YthbgbmdmimejiaaGreatDoor
open Go Go.Sx
def Ty2:List (Nat×TI):=Ty++ [
 (82,⟨9,1,[],75,0,3,none,.i64,[.nilm],8,false⟩)]
def T2:Tab:= {ty:=Ty2,of:= [116,117],nb:= [(59,1),(39,4),(117,1),(80,1)]}
theorem eq72:zw1 Tryz.prog 75 opZ:=zx3 Z
theorem qdv:KeyOK Tryz.prog 75 .op :=zvz Tryz.underlying75 eq72 (fun w b x=>Z)
theorem key3:KeyOK Tryz.prog 3 .int :=zs1 Tryz.underlying3
theorem hT2:TabOK Tryz.prog T2:=zqw qdv key3 Z Z
abbrev FB(f:Nat)(B:List Nat)(H:Hp)(A:List AV)(r:AV)(H':Hp):Prop:=zwz Tryz.prog f B H A r H'
def bH(b o u m:Nat)(ins:Int)(ops:List TOp)(outs:List Int)(at':List (TOp×Int)):Hp:=
 [(b,.cells [.int .i64 ins,.own o,.own u,.mp m]),(o,.buf 75 .op ops),(u,.buf 3 .int outs),(m,.map .op .int at')]
set_option maxRecDepth 100000
set_option maxHeartbeats 8000000
noncomputable def ztx:Code:=Tryz.f41.body.getD .skip
abbrev bP(ins:Int)(ops:List TOp)(outs:List Int)(at':List (TOp×Int)):Hp:=bH 1000001 1700002 1000003 1000004 ins ops outs at'
theorem zwf(ins:Int)(ops:List TOp)(outs:List Int)(at':List (TOp×Int))(x:TOp)(h:zdo .op x at'=true):
 FB 41 [1700002] (bP ins ops outs at') [.ptr 1000001 0,.agg (Elt.op.cells x)] (.int .i64 (zjc .op x 0 at')) (bP ins ops outs at'):=by
 refine uk (code:=ztx) hT2 Tryz.func41 rfl rfl [1700002,1000003] ?_;conv=>whnf
 refine jt hT2 hmx ?_;conv=>whnf
 refine gYd ?_;refine brI (fun _=>?_) (fun h'=>absurd (show zdo .op x at'=false from h') (by rw[h];simp));conv=>whnf
 exact⟨lr rfl,lh1 (bc0 (lc (lr rfl) (lc (lr rfl) (lc (lr rfl) (lc (lr rfl) ln0))))) (lh1 (bb0 rfl) (lh1 (bb0 rfl) (lh1 (bm0 rfl) lh0)))⟩
theorem zwg(ins:Int)(ops:List TOp)(outs:List Int)(at':List (TOp×Int))(x:TOp)(h:zdo .op x at'=false)(h0:0<=ins)(h1:ins<=1000)(h2:ops.length<=1000000):
 FB 41 [1700002] (bP ins ops outs at') [.ptr 1000001 0,.agg (Elt.op.cells x)] (.int .i64 (ins+ops.length)) (bP ins (ops++ [x]) outs (zed .op x (ins+ops.length) at')):=by
 refine uk (code:=ztx) hT2 Tryz.func41 rfl rfl [1700002,1000003] ?_;conv=>whnf
 refine jf hT2 hmx 4 (fun _:Unit=>⟨[.ptr 1000001 0,.any,.any,.ptr 3 0,.any,.any,.any,.int .i64 (ins+ops.length)]++zbh 42,
  [(3,.cells (Elt.op.cells x)),(39,.free),(100039,.free),(1500039,.buf 75 .op (ops++ [x])),(1000001,.cells [.int .i64 ins,.own 1500039,.own 1000003,.mp 1000004]),(1700002,.dead),(1000003,.buf 3 .int outs),(1000004,.map .op .int at')]⟩) (fun _=>Z) ?_ (fun _=>?_)
 .conv=>whnf
  refine gYd ?_;refine brI (fun h'=>absurd (show zdo .op x at'=true from h') (by rw[h];simp)) (fun _=>?_);conv=>whnf
  refine gYd ?_;conv=>whnf
  refine⟨by simp only[q5,q7];omega,?_⟩;conv=>whnf
  refine gYd ?_;refine⟨(),?_⟩
  ((conv=>whnf);refine q3 ?_ ?_;repeat' first|refine lc ?_ ?_|refine lh1 ?_ ?_|refine bc0 ?_|exact KXY|refine lg0 ?_|refine lt0 ?_)
  .exact ai0 (by rw[wI O])
  all_goals first|exact bb0 rfl|exact bm0 rfl
 .refine zae 1700002 1500039 Z ?_;refine jt hT2 hmx ?_;conv=>whnf
  refine gYd ?_;exact⟨lr rfl,lh1 (bc0 (lc (lr rfl) (lc (lr rfl) (lc (lr rfl) (lc (lr rfl) ln0))))) (lh1 (bb0 rfl) (lh1 (bb0 rfl) (lh1 (bm0 rfl) lh0)))⟩
abbrev BS:=List TOp×List (TOp×Int)
def zdu(ins:Int)(x:TOp)(s:BS):Int×BS:=if zdo .op x s.2=true then(zjc .op x 0 s.2,s)else(ins+s.1.length,(s.1++ [x],zed .op x (ins+s.1.length) s.2))
def at0:List Int->Int
 |a::_=>a
 | _=>0
def at1:List Int->Int
 | _::b::_=>b
 | _=>0
mutual
def ndE(ins:Int)(ns:List zp):Ex->BS->Int×BS
 |.mk k q s p l,st=>if k=2 then(ixP (eqS s) ns 0,st)else zdu ins ⟨k,at0 (ndL ins ns l st).1,at1 (ndL ins ns l st).1,p,q⟩ (ndL ins ns l st).2
def ndL(ins:Int)(ns:List zp):List Ex->BS->List Int×BS
 | [],st=>([],st)
 |x::l,st=>((ndE ins ns x st).1::(ndL ins ns l (ndE ins ns x st).2).1,(ndL ins ns l (ndE ins ns x st).2).2)
end
theorem zr1(ins:Int)(x:TOp)(s:BS):(zdu ins x s).2.1.length <=s.1.length+1:=by
 unfold zdu;split<;>simp
mutual
theorem znl(ins:Int)(ns:List zp):∀(e:Ex)(st:BS),(ndE ins ns e st).2.1.length <=st.1.length+zd9 e
 |.mk k q s p l,st=>by
   have h1:=zly ins ns l st;simp only[ndE,zd9];split
   .simp only;omega
   .have h2:=zr1 ins ⟨k,at0 (ndL ins ns l st).1,at1 (ndL ins ns l st).1,p,q⟩ (ndL ins ns l st).2;omega
theorem zly(ins:Int)(ns:List zp):∀(l:List Ex)(st:BS),(ndL ins ns l st).2.1.length <=st.1.length+ze9 l
 | [],st=>by simp[ndL]
 |x::l,st=>by
  have h1:=znl ins ns x st;have h2:=zly ins ns l (ndE ins ns x st).2;simp only[ndL,ze9];omega
end
theorem f141(ins:Int)(outs:List Int)(x:TOp)(s:BS)(h0:0<=ins)(h1:ins<=1000)(h2:s.1.length<=1000000):
 FB 41 [1700002] (bP ins s.1 outs s.2) [.ptr 1000001 0,.agg (Elt.op.cells x)] (.int .i64 (zdu ins x s).1) (bP ins (zdu ins x s).2.1 outs (zdu ins x s).2.2):=by
 unfold zdu
 cases h:zdo .op x s.2 with
 |true=>simp only[if_true];exact zwf ins s.1 outs s.2 x h
 |false=>simp only[Bool.false_eq_true,if_false];exact zwg ins s.1 outs s.2 x h h0 h1 h2
abbrev IB:List Nat:= [1000001,1700002,1000003,1000004]
abbrev zyf(ins:Int)(ns:List zp)(outs:List Int)(e:Ex):Prop:=∀st:BS,st.1.length+zd9 e<=1000000->
 FB 75 [1700002] (bP ins st.1 outs st.2) [.ptr 1000001 0,.agg (exC e),.sl .str ns] (.int .i64 (ndE ins ns e st).1) (bP ins (ndE ins ns e st).2.1 outs (ndE ins ns e st).2.2)
noncomputable def zow:Code:=Tryz.f75.body.getD .skip
section
variable (ins:Int) (ns:List zp) (outs:List Int) (h0:0<=ins) (h1:ins<=1000) (hn:ns.length<9223372036854775808)
include hn in
theorem qal(s:zp):zyf ins ns outs (zup s):=by
 intro st _;have e:ndE ins ns (zup s) st=(ixP (eqS s) ns 0,st):=by simp[zup,ndE]
 rw[e];refine uk (code:=zow) hT2 Tryz.func75 rfl rfl [1700002,1000003] ?_;conv=>whnf
 refine xf hT2 hmx [7,12] ?_;conv=>whnf
 refine gYn (f106 ns s hn) ?_
 (refine q3 ?_ ?_;repeat' first|refine lc ?_ ?_|exact la0|exact lr rfl|exact ln0|refine lh1 ?_ ?_|exact lh0|exact bf0|exact bd0|refine bc0 ?_|exact bm0 rfl|exact bb0 rfl|exact bg0 rfl|exact li0 rfl|refine lg0 ?_|refine lt0 ?_|fail)
include h0 h1 in
theorem qan(r:Rt):zyf ins ns outs (zzc r):=by
 intro st hst;have e:ndE ins ns (zzc r) st=zdu ins ⟨1,0,0,0,r⟩ st:=by simp[zzc,ndE,ndL,at0,at1]
 have hp:=f141 ins outs ⟨1,0,0,0,r⟩ st h0 h1 (by simp[zzc,zd9,ze9]at hst;omega);rw[e];obtain⟨A,hA⟩:∃A,zdu ins ⟨1,0,0,0,r⟩ st=A:=⟨_,rfl⟩;rw[hA]at hp⊢;obtain⟨k,ops,at'⟩:=A;refine uk (code:=zow) hT2 Tryz.func75 rfl rfl [1700002,1000003] ?_;conv=>whnf
 refine xf hT2 hmx [7,12] ?_;conv=>whnf
 refine⟨Unit,fun _=>True,fun _=> [(28,.int .i64 0)],fun _=> [],fun _=>0,(),trivial,?_,fun _ _=>?_⟩
 .exact KZ0
 refine gYe ?_;refine wt hT2 2 ?_;conv=>whnf
 refine⟨41,IB,[1700002],zdj (bP ins ops outs at'),.int .i64 k,rfl,Z,hp,?_⟩;conv=>whnf
 (refine q3 ?_ ?_;repeat' first|refine lc ?_ ?_|exact la0|exact lr rfl|exact ln0|refine lh1 ?_ ?_|exact lh0|exact bf0|exact bd0|refine bc0 ?_|exact bm0 rfl|exact bb0 rfl|exact bg0 rfl|exact li0 rfl|refine lg0 ?_|refine lt0 ?_|fail)
include h0 h1 in
theorem ztc(k n:Int)(a:Ex)(hk:k≠2)(ha:zyf ins ns outs a):zyf ins ns outs (opE k n [a]):=by
 intro st hst;have e:ndE ins ns (opE k n [a]) st=zdu ins ⟨k,(ndE ins ns a st).1,0,n,⟨0,0⟩⟩ (ndE ins ns a st).2:=by simp[opE,ndE,ndL,at0,at1,hk]
 have hsz:zd9 (opE k n [a])=zd9 a+1:=by simp[opE,zd9,ze9]
 have hl:=znl ins ns a st;have hpa:=ha st O;rw[e];obtain⟨A,hA⟩:∃A,ndE ins ns a st=A:=⟨_,rfl⟩;rw[hA]at hpa hl⊢;obtain⟨i0,st1⟩:=A;have hp:=f141 ins outs ⟨k,i0,0,n,⟨0,0⟩⟩ st1 h0 h1 (by simp only at hl;omega);simp only;obtain⟨B,hB⟩:∃B,zdu ins ⟨k,i0,0,n,⟨0,0⟩⟩ st1=B:=⟨_,rfl⟩;rw[hB]at hp⊢;obtain⟨j,ops,at'⟩:=B;refine uk (code:=zow) hT2 Tryz.func75 rfl rfl [1700002,1000003] ?_;conv=>whnf
 refine xf hT2 hmx [7,12] ?_;conv=>whnf
 refine brI (fun h=>absurd (show k=2 by simpa[opE,Ex.k]using h) hk) (fun _=>?_);conv=>whnf
 refine⟨Nat,fun x=>x<=1,fun x=> [(28,.int .i64 x)],fun x=>match x with
  |0=> [(7,.cells (Elt.op.cells ⟨k,0,0,n,⟨0,0⟩⟩)),(1700002,.buf 75 .op st.1),(1000004,.map .op .int st.2)]
  | _=> [(7,.cells (Elt.op.cells ⟨k,i0,0,n,⟨0,0⟩⟩)),(1700002,.buf 75 .op st1.1),(1000004,.map .op .int st1.2)],fun x=>1-x,0,O,?_,fun x hx=>?_⟩
 .exact KZ0
 rcases(O:x=0\/x=1)with rfl|rfl
 .refine gYe ?_;refine ix0 ?_;conv=>whnf
  refine wt hT2 3 ?_;conv=>whnf
  refine⟨75,IB,[1700002],zdj (bP ins st1.1 outs st1.2),.int .i64 i0,rfl,Z,hpa,?_⟩;conv=>whnf
  refine⟨1,O,OA,?_⟩;exact KZ0
 .refine gYe ?_;refine wt hT2 2 ?_;conv=>whnf
  refine⟨41,IB,[1700002],zdj (bP ins ops outs at'),.int .i64 j,rfl,Z,hp,?_⟩;conv=>whnf
  (refine q3 ?_ ?_;repeat' first|refine lc ?_ ?_|exact la0|exact lr rfl|exact ln0|refine lh1 ?_ ?_|exact lh0|exact bf0|exact bd0|refine bc0 ?_|exact bm0 rfl|exact bb0 rfl|exact bg0 rfl|exact li0 rfl|refine lg0 ?_|refine lt0 ?_|fail)
include h0 h1 in
theorem qam(k:Int)(a b:Ex)(hk:k≠2)(ha:zyf ins ns outs a)(hb:zyf ins ns outs b):zyf ins ns outs (opE k 0 [a,b]):=by
 intro st hst;have e:ndE ins ns (opE k 0 [a,b]) st=zdu ins ⟨k,(ndE ins ns a st).1,(ndE ins ns b (ndE ins ns a st).2).1,0,⟨0,0⟩⟩ (ndE ins ns b (ndE ins ns a st).2).2:=by simp[opE,ndE,ndL,at0,at1,hk]
 have hsz:zd9 (opE k 0 [a,b])=zd9 a+zd9 b+1:=by simp[opE,zd9,ze9]
 have hl:=znl ins ns a st;have hpa:=ha st O;rw[e];obtain⟨A,hA⟩:∃A,ndE ins ns a st=A:=⟨_,rfl⟩;rw[hA]at hpa hl⊢;obtain⟨i0,st1⟩:=A;simp only at hl⊢;have hl2:=znl ins ns b st1;have hpb:=hb st1 O;obtain⟨C,hC⟩:∃C,ndE ins ns b st1=C:=⟨_,rfl⟩;rw[hC]at hpb hl2⊢;obtain⟨i1,st2⟩:=C;simp only at hl2⊢;have hp:=f141 ins outs ⟨k,i0,i1,0,⟨0,0⟩⟩ st2 h0 h1 O;obtain⟨B,hB⟩:∃B,zdu ins ⟨k,i0,i1,0,⟨0,0⟩⟩ st2=B:=⟨_,rfl⟩;rw[hB]at hp⊢;obtain⟨j,ops,at'⟩:=B;refine uk (code:=zow) hT2 Tryz.func75 rfl rfl [1700002,1000003] ?_;conv=>whnf
 refine xf hT2 hmx [7,12] ?_;conv=>whnf
 refine brI (fun h=>absurd (show k=2 by simpa[opE,Ex.k]using h) hk) (fun _=>?_);conv=>whnf
 refine⟨Nat,fun x=>x<=2,fun x=> [(28,.int .i64 x)],fun x=>match x with
  |0=> [(7,.cells (Elt.op.cells ⟨k,0,0,0,⟨0,0⟩⟩)),(1700002,.buf 75 .op st.1),(1000004,.map .op .int st.2)]
  |1=> [(7,.cells (Elt.op.cells ⟨k,i0,0,0,⟨0,0⟩⟩)),(1700002,.buf 75 .op st1.1),(1000004,.map .op .int st1.2)]
  | _=> [(7,.cells (Elt.op.cells ⟨k,i0,i1,0,⟨0,0⟩⟩)),(1700002,.buf 75 .op st2.1),(1000004,.map .op .int st2.2)],fun x=>2-x,0,O,?_,fun x hx=>?_⟩
 .exact KZ0
 rcases(O:x=0\/x=1\/x=2)with rfl|rfl|rfl
 .refine gYe ?_;refine ix0 ?_;conv=>whnf
  refine wt hT2 3 ?_;conv=>whnf
  refine⟨75,IB,[1700002],zdj (bP ins st1.1 outs st1.2),.int .i64 i0,rfl,Z,hpa,?_⟩;conv=>whnf
  refine⟨1,O,OA,?_⟩;exact KZ0
 .refine gYe ?_;refine ix1 ?_;conv=>whnf
  refine wt hT2 3 ?_;conv=>whnf
  refine⟨75,IB,[1700002],zdj (bP ins st2.1 outs st2.2),.int .i64 i1,rfl,Z,hpb,?_⟩;conv=>whnf
  refine⟨2,O,OA,?_⟩;exact KZ0
 .refine gYe ?_;refine wt hT2 2 ?_;conv=>whnf
  refine⟨41,IB,[1700002],zdj (bP ins ops outs at'),.int .i64 j,rfl,Z,hp,?_⟩;conv=>whnf
  (refine q3 ?_ ?_;repeat' first|refine lc ?_ ?_|exact la0|exact lr rfl|exact ln0|refine lh1 ?_ ?_|exact lh0|exact bf0|exact bd0|refine bc0 ?_|exact bm0 rfl|exact bb0 rfl|exact bg0 rfl|exact li0 rfl|refine lg0 ?_|refine lt0 ?_|fail)
include h0 h1 hn in
theorem f94{e:Ex}(h:VT e):zyf ins ns outs e:=by
 induction h with
 |num r _=>exact qan ins ns outs h0 h1 r
 |var s _=>exact qal ins ns outs hn s
 |un k a hk _ ih=>exact ztc ins ns outs h0 h1 k 0 a (K1_ne hk).2 ih
 |pow n a _ _ _ ih=>exact ztc ins ns outs h0 h1 8 n a O ih
 |bin k a b hk _ _ ih1 ih2=>exact qam ins ns outs h0 h1 k a b (K2_ne hk).2 ih1 ih2
end
theorem tc138(w:World):Calls Tryz.prog 78 #[.slice none 0 0] w fun e w'=>e=.returned (.slice none 0 0)/\w'=w:=by
 go_enter Tryz.func78,Tryz.ntmps78
 go_wp2
 rename_i Kx hx;refine hx _ _ ?_;simp only[Option.isNone]
 go_wp2
 go_ret
 exact⟨rfl,rfl⟩
theorem tc139(w:World):Calls Tryz.prog 79 #[.slice none 0 0] w fun e w'=>e=.returned (.slice none 0 0)/\w'=w:=by
 go_enter Tryz.func79,Tryz.ntmps79
 go_wp2
 rename_i Kx hx;refine hx _ _ ?_;simp only[Option.isNone]
 go_wp2
 go_ret
 exact⟨rfl,rfl⟩
theorem f138:Fn 78 [] [.nilsl] .nilsl []:=by
 refine zcm.pure ⟨_,Tryz.func78,rfl,rfl⟩ fun ρ vs w hv=>?_
 match vs,hv with
 | [a],⟨ha,_⟩=>
   obtain rfl:a=.slice none 0 0:=ha;refine(tc138 w).mono ?_;rintro e w' ⟨rfl,rfl⟩;exact⟨⟨_,rfl,rfl⟩,rfl⟩
theorem f139:Fn 79 [] [.nilsl] .nilsl []:=by
 refine zcm.pure ⟨_,Tryz.func79,rfl,rfl⟩ fun ρ vs w hv=>?_
 match vs,hv with
 | [a],⟨ha,_⟩=>
   obtain rfl:a=.slice none 0 0:=ha;refine(tc139 w).mono ?_;rintro e w' ⟨rfl,rfl⟩;exact⟨⟨_,rfl,rfl⟩,rfl⟩
theorem f140:Fn 80 [] [.nilsl] (.fn 120 [.ptr 2000000 0]) [(2000000,.cells [.nilsl])]:=by
 refine fnT hT2 hmx Tryz.func80 rfl rfl (ex:= [1]) ?_;conv=>whnf
 exact⟨lr rfl,lh1 (bc0 (lc (lr rfl) ln0)) lh0⟩
theorem f160(l:Nat)(J:GJ):Fn 120 [(qc,.gst J),(1000001,.cells [.nilsl])] [.cb l,.ptr 1000001 0] (.tup []) [(qc,.gst J),(1000001,.cells [.nilsl])]:=by
 refine fnT hT2 hmx Tryz.func120 rfl rfl (ex:= []) ?_;conv=>whnf
 refine⟨Unit,fun _=>True,fun _=> [(3,.int .i64 (-1))],fun _=> [],fun _=>0,(),trivial,?_,fun _ _=>?_⟩
 .exact KZ0
 refine gYe ?_;exact⟨lr rfl,lh1 (bg0 rfl) (lh1 (bc0 (lc (lr rfl) ln0)) lh0)⟩
theorem f93(n:Int):Fn 39 [] [.agg [.int .i64 n,.nilsl,.nilsl]] (.ptr 2000000 0) (bH 2000000 2000001 2000002 2000003 n [] [] []):=by
 refine fnT hT2 hmx Tryz.func39 rfl rfl (ex:= [17,100000,100001,15]) ?_;conv=>whnf
 refine⟨[],.nilsl,f138,?_⟩;conv=>whnf
 refine⟨[],.nilsl,f139,?_⟩;conv=>whnf
 refine gYd ?_;refine⟨[],[.cells [.nilsl]],_,f140,?_⟩;conv=>whnf
 refine⟨[],Unit,Empty,fun _=> [],fun _=>true,fun _=>Code.skip,fun y=>(nomatch y),fun x _=>x,(),(),.tup [],[.cells [.nilsl]],rfl,rfl,Z,Z,fun _=>⟨rfl,rfl⟩,fun y=>(nomatch y),fun l J _=>(f160 l (J ())).sw [(23,1000001)] rfl,fun _ y=>(nomatch y),?_⟩;conv=>whnf
 refine⟨lr rfl,lh1 (bc0 (lc (lr rfl) (lc ?_ (lc ?_ (lc (lr rfl) ln0))))) (lh1 ⟨rfl,rfl⟩ (lh1 ⟨rfl,rfl⟩ (lh1 (bm0 rfl) lh0)))⟩
 .exact trivial
 .exact trivial
noncomputable def qew:Code:=Tryz.f42.body.getD .skip
theorem f95(ins:Int)(ops:List TOp)(outs:List Int)(at':List (TOp×Int)):FB 42 [] (bH 1000001 1000002 1000003 1000004 ins ops outs at') [.ptr 1000001 0] (.bool (decide (200<ops.length)||decide (200<outs.length))) (bH 1000001 1000002 1000003 1000004 ins ops outs at'):=by
 refine uk (code:=qew) hT2 Tryz.func42 rfl rfl [1000002,1000003] ?_;conv=>whnf
 refine xf hT2 hmx [] ?_;conv=>whnf
 refine brI (fun h1=>?_) (fun h1=>?_)
 .conv=>whnf
  have h1:200<ops.length:=by simp only[Z2]at h1;omega
  (refine q3 ?_ ?_;repeat' first|refine lc ?_ ?_|exact la0|exact lr rfl|exact ln0|refine lh1 ?_ ?_|exact lh0|exact bf0|exact bd0|refine bc0 ?_|exact bm0 rfl|exact bb0 rfl|exact bg0 rfl|exact li0 rfl|refine lg0 ?_|refine lt0 ?_|fail)
  exact ab0 (by simp[h1])
 .conv=>whnf
  have h1:¬200<ops.length:=by simp only[Z3]at h1;omega
  (refine q3 ?_ ?_;repeat' first|refine lc ?_ ?_|exact la0|exact lr rfl|exact ln0|refine lh1 ?_ ?_|exact lh0|exact bf0|exact bd0|refine bc0 ?_|exact bm0 rfl|exact bb0 rfl|exact bg0 rfl|exact li0 rfl|refine lg0 ?_|refine lt0 ?_|fail)
  refine ab0 ?_;rw[Z7 h1,Bool.false_or];by_cases h2:200<outs.length
  .rw[Z6 h2];exact Z6 O
  .rw[Z7 h2];exact Z7 O
def twS:List zp->Nat->List zp->Bool
 |ns,i,n::l=>(ns.take i).any (eqS n)||twS ns (i+1) l
 | _,_,[]=>false
def twB(ns:List zp):Bool:=twS ns 0 ns
theorem f90(ns:List zp)(hn:ns.length<9223372036854775808):Fn 71 [] [.sl .str ns] (.bool (twB ns)) []:=by
 obtain⟨A,hA⟩:∃A,twB ns=A:=⟨_,rfl⟩;rw[hA];refine fnT hT2 hmx Tryz.func71 rfl rfl (ex:= []) ?_;conv=>whnf
 refine⟨Nat,fun i=>i<=ns.length/\twS ns i (ns.drop i)=A,fun i=> [(7,.int .i64 i)],fun _=> [],fun i=>ns.length-i,0,⟨OC,by simpa[twB]using hA⟩,?_,fun i hi=>?_⟩
 .exact KZ0
 refine gYe ?_;obtain⟨hi1,hi2⟩:=hi;refine brI (fun h1=>?_) (fun h1=>?_)
 .conv=>whnf
  have hi:i<ns.length:=by simp only[Z2]at h1;omega
  refine⟨⟨O,O⟩,fun n hx=>?_⟩;have hx:ns[i]? =some n:=by simpa using hx
  rw[va hx]at hi2;simp only[twS]at hi2;conv=>whnf
  refine⟨⟨O,O,O⟩,?_⟩;conv=>whnf
  refine cbI [] ((ns.take i).any (eqS n)) (f55 (ns.take i) n (by rw[q4];omega)) (fun h2=>?_) (fun h2=>?_)
  .conv=>whnf
   rw[h2]at hi2;exact⟨ab0 (by simpa using hi2),lh0⟩
  .conv=>whnf
   rw[h2]at hi2;refine⟨i+1,⟨O,by simpa using hi2⟩,by show ns.length-(i+1)<ns.length-i;omega,?_⟩;exact KZ0
 .conv=>whnf
  have hi:¬i<ns.length:=by simp only[Z3]at h1;omega
  rw[q0 O]at hi2;exact⟨ab0 (by simpa[twS]using hi2),lh0⟩
def zox(e:Ex):Bool:= !okT e
theorem f87(e:Ex)(he:Sm e):Fn 67 [] [.agg (exC e)] (.bool (zox e)) []:=by
 refine fnT hT2 hmx Tryz.func67 rfl rfl (ex:= []) ?_;conv=>whnf
 refine cbI [] (okT e) (f17 e he) (fun h=>?_) (fun h=>?_)
 .conv=>whnf
  exact⟨ab0 (by simp[zox,h]),lh0⟩
 .conv=>whnf
  exact⟨ab0 (by simp[zox,h]),lh0⟩
theorem f114b(l:List Ex)(hl:∀x∈l,Sm x)(hlen:l.length<9223372036854775808):Fn 87 [] [.sl .ex l,.fn 67 []] (.int .i64 (ixP zox l 0)) []:=by
 refine fnT hT2 hmx Tryz.func87 rfl rfl (ex:= []) ?_;conv=>whnf
 refine⟨Nat,fun i=>i<=l.length/\ixP zox (l.drop i) i=ixP zox l 0,fun i=> [(8,.int .i64 i)],fun _=> [],fun i=>l.length-i,0,⟨OC,rfl⟩,?_,fun i hi=>?_⟩
 .exact KZ0
 refine gYe ?_;obtain⟨hi1,hi2⟩:=hi;refine brI (fun h1=>?_) (fun h1=>?_)
 .conv=>whnf
  have hi:i<l.length:=by simp only[Z2]at h1;omega
  refine⟨⟨O,O⟩,fun x hx=>?_⟩;have hx:l[i]? =some x:=by simpa using hx
  have hm:=q1 hx;rw[va hx]at hi2;simp only[ixP]at hi2;conv=>whnf
  refine cbI [] (zox x) (f87 x (hl x hm)) (fun h2=>?_) (fun h2=>?_)
  .conv=>whnf
   rw[Z4 h2]at hi2;exact⟨ai0 hi2,lh0⟩
  .conv=>whnf
   rw[Z5 (by rw[h2];simp)]at hi2;refine⟨i+1,⟨O,hi2⟩,by show l.length-(i+1)<l.length-i;omega,?_⟩;exact KZ0
 .conv=>whnf
  have hi:¬i<l.length:=by simp only[Z3]at h1;omega
  rw[q0 O]at hi2;exact⟨ai0 hi2,lh0⟩
theorem f60b(l:List Ex)(hl:∀x∈l,Sm x)(hlen:l.length<9223372036854775808):Fn 56 [] [.sl .ex l,.fn 67 []] (.bool (l.any zox)) []:=by
 refine fnT hT2 hmx Tryz.func56 rfl rfl (ex:= []) ?_;conv=>whnf
 refine gYn (f114b l hl hlen) ?_;exact⟨ab0 (by rw[Bool.eq_iff_iff,Z2];exact za6 zox l 0),lh0⟩
def zqh(n:zp):Bool:= !zfn n
theorem f88(n:zp)(hn:n.length<9223372036854775808):Fn 69 [] [.str n] (.bool (zqh n)) []:=by
 refine fnT hT2 hmx Tryz.func69 rfl rfl (ex:= []) ?_;conv=>whnf
 refine cbI [] (zfn n) (f89 n hn) (fun h=>?_) (fun h=>?_)
 .conv=>whnf
  exact⟨ab0 (by simp[zqh,h]),lh0⟩
 .conv=>whnf
  exact⟨ab0 (by simp[zqh,h]),lh0⟩
theorem f73b(l:List zp)(hl:∀x∈l,x.length<9223372036854775808)(hlen:l.length<9223372036854775808):Fn 113 [] [.sl .str l,.fn 69 []] (.int .i64 (ixP zqh l 0)) []:=by
 refine fnT hT2 hmx Tryz.func113 rfl rfl (ex:= []) ?_;conv=>whnf
 refine⟨Nat,fun i=>i<=l.length/\ixP zqh (l.drop i) i=ixP zqh l 0,fun i=> [(8,.int .i64 i)],fun _=> [],fun i=>l.length-i,0,⟨OC,rfl⟩,?_,fun i hi=>?_⟩
 .exact KZ0
 refine gYe ?_;obtain⟨hi1,hi2⟩:=hi;refine brI (fun h1=>?_) (fun h1=>?_)
 .conv=>whnf
  have hi:i<l.length:=by simp only[Z2]at h1;omega
  refine⟨⟨O,O⟩,fun x hx=>?_⟩;have hx:l[i]? =some x:=by simpa using hx
  have hm:=q1 hx;rw[va hx]at hi2;simp only[ixP]at hi2;conv=>whnf
  refine cbI [] (zqh x) (f88 x (hl x hm)) (fun h2=>?_) (fun h2=>?_)
  .conv=>whnf
   rw[Z4 h2]at hi2;exact⟨ai0 hi2,lh0⟩
  .conv=>whnf
   rw[Z5 (by rw[h2];simp)]at hi2;refine⟨i+1,⟨O,hi2⟩,by show l.length-(i+1)<l.length-i;omega,?_⟩;exact KZ0
 .conv=>whnf
  have hi:¬i<l.length:=by simp only[Z3]at h1;omega
  rw[q0 O]at hi2;exact⟨ai0 hi2,lh0⟩
theorem f32b(l:List zp)(hl:∀x∈l,x.length<9223372036854775808)(hlen:l.length<9223372036854775808):Fn 68 [] [.sl .str l,.fn 69 []] (.bool (l.any zqh)) []:=by
 refine fnT hT2 hmx Tryz.func68 rfl rfl (ex:= []) ?_;conv=>whnf
 refine gYn (f73b l hl hlen) ?_;exact⟨ab0 (by rw[Bool.eq_iff_iff,Z2];exact za6 zqh l 0),lh0⟩
abbrev HnT(ns:List zp):Hp:= [(1000003,.cells [.sl .str ns])]
theorem zsv(ns:List zp){h h':Hp}:leH h h' (HnT ns) (HnT ns):=lh1 (bc0 (lc (lr rfl) ln0)) lh0
def zqc(ns:List zp)(n:zp):Bool:= !ns.any (eqS n)
theorem f92(ns:List zp)(n:zp)(hns:ns.length<9223372036854775808):Fn 73 (HnT ns) [.str n,.ptr 1000003 0] (.bool (zqc ns n)) (HnT ns):=by
 refine fnT hT2 hmx Tryz.func73 rfl rfl (ex:= []) ?_;conv=>whnf
 refine cbI [] (ns.any (eqS n)) (f55 ns n hns) (fun h=>?_) (fun h=>?_)
 .conv=>whnf
  exact⟨ab0 (by simp only[zqc,h]),zsv ns⟩
 .conv=>whnf
  exact⟨ab0 (by simp only[zqc,h]),zsv ns⟩
theorem f73c(ns:List zp)(hns:ns.length<9223372036854775808)(l:List zp)(hlen:l.length<9223372036854775808):Fn 113 (HnT ns) [.sl .str l,.fn 73 [.ptr 1000003 0]] (.int .i64 (ixP (zqc ns) l 0)) (HnT ns):=by
 refine fnT hT2 hmx Tryz.func113 rfl rfl (ex:= []) ?_;conv=>whnf
 refine⟨Nat,fun i=>i<=l.length/\ixP (zqc ns) (l.drop i) i=ixP (zqc ns) l 0,fun i=> [(8,.int .i64 i)],fun _=> [],fun i=>l.length-i,0,⟨OC,rfl⟩,?_,fun i hi=>?_⟩
 .exact KZ0
 refine gYe ?_;obtain⟨hi1,hi2⟩:=hi;refine brI (fun h1=>?_) (fun h1=>?_)
 .conv=>whnf
  have hi:i<l.length:=by simp only[Z2]at h1;omega
  refine⟨⟨O,O⟩,fun x hx=>?_⟩;have hx:l[i]? =some x:=by simpa using hx
  have hm:=q1 hx;rw[va hx]at hi2;simp only[ixP]at hi2;conv=>whnf
  refine cbI [.cells [.sl .str ns]] ((zqc ns) x) (f92 ns x hns) (fun h2=>?_) (fun h2=>?_)
  .conv=>whnf
   rw[Z4 h2]at hi2;exact⟨ai0 hi2,zsv ns⟩
  .conv=>whnf
   rw[Z5 (by rw[h2];simp)]at hi2;refine⟨i+1,⟨O,hi2⟩,by show l.length-(i+1)<l.length-i;omega,?_⟩;exact KZ0
 .conv=>whnf
  have hi:¬i<l.length:=by simp only[Z3]at h1;omega
  rw[q0 O]at hi2;exact⟨ai0 hi2,zsv ns⟩
theorem f32c(ns:List zp)(hns:ns.length<9223372036854775808)(l:List zp)(hlen:l.length<9223372036854775808):Fn 68 (HnT ns) [.sl .str l,.fn 73 [.ptr 1000003 0]] (.bool (l.any (zqc ns))) (HnT ns):=by
 refine fnT hT2 hmx Tryz.func68 rfl rfl (ex:= []) ?_;conv=>whnf
 refine⟨[.cells [.sl .str ns]],_,f73c ns hns l hlen,?_⟩;conv=>whnf
 exact⟨ab0 (by rw[Bool.eq_iff_iff,Z2];exact za6 (zqc ns) l 0),zsv ns⟩
def jv(l:List Ex)(ns:List zp)(x:Ex)(i k n:Int)(ops ops1:List TOp)(outs:List Int)(at1 at2:List (TOp×Int))(b0 b1 b2 b3 b4 b5 b6 b7 b8 b9 b10 b11 b12 b13 b14 b15:Bool):St:=
 ⟨[.sl .ex l,.any,.any,.ptr 3 0,.ptr 4 0,.any,.any,.any,.ptr 48 0,.any,.ptr 10 0,.any,.any,.any,.any,.any,.any,.any,.any,.any,.any,.any,.any,.any,.any,.any,.any,.any,.any,.any,.any,.any,.any,.any,.any,.any,.any,.any,.any,.any,.any,.any,.any,.any,.any,.any,.any,.any,.any,.sl .ex l,.int .i64 l.length,.int .i64 i,.any,.any,.any,(bif b0 then .ptr 48 0 else .any),(bif b1 then .ptr 48 0 else .any),(bif b2 then .ptr 48 0 else .any),(bif b3 then .ptr 48 0 else .any),(bif b4 then .ptr 48 2 else .any),(bif b5 then .own 200048 else .any),(bif b6 then .ptr 48 0 else .any),(bif b7 then .agg (exC x)else .any),(bif b8 then .sl .str ns else .any),(bif b9 then .int .i64 k else .any),(bif b10 then .sl .int [k]else .any),(bif b11 then .own 66 else .any),(bif b12 then .ptr 48 0 else .any),(bif b13 then .ptr 48 0 else .any),(bif b14 then .ptr 48 2 else .any),.any,.any,.any,.any,.any,.any,.any,.any],
  [(3,.cells [.sl .str ns]),(4,.cells [.int .i64 0,.nilsl,.nilsl]),(7,.free),(48,.cells [.int .i64 n,.own 100048,bif b15 then .own 66 else .own 200048,.mp 300048]),(100048,.buf 75 .op (bif b9 then ops1 else ops)),(200048,bif b11 then .dead else .buf 3 .int outs),
   (300048,.map .op .int (bif b9 then at2 else at1)),(10,.cells (exC x)),(66,bif b11 then .buf 3 .int (outs++ [k])else .free),(100066,.free),(1500066,.free)]⟩
def S17(l:List Ex)(ns:List zp)(x:Ex)(i k n:Int)(ops ops1:List TOp)(outs:List Int)(at1 at2:List (TOp×Int))(L:Nat->Bool):St:=jv l ns x i k n ops ops1 outs at1 at2 (L 0) (L 1) (L 2) (L 3) (L 4) (L 5) (L 6) (L 7) (L 8) (L 9) (L 10) (L 11) (L 12) (L 13) (L 14) (L 15)
theorem zz2{b:Bool}{l:List Nat}{i:Nat}(h:i∈(bif b then l else [])):i∈l:=by
 cases b
 .cases h
 .exact h
theorem zpy(b:Bool)(x:AV):(bif b then x else .any).ids =bif b then x.ids else []:=by cases b<;>rfl
def reg17:Code->Code
 |.seq _ (.seq _ (.seq _ (.seq _ (.seq (.seq _ (.block _ (.loop (.seq _ (.seq _ (.seq (.block _ (.seq _ r)) _)))))) _))))=>r
 |c=>c
def opsOf:Code->Array Oper
 |.region _ ops _=>ops
 | _=> #[]
noncomputable def wx:Array Oper:=opsOf (reg17 (Tryz.f35.body.getD .skip))
section
variable (l:List Ex) (ns:List zp) (x:Ex) (i k n:Int) (ops ops1:List TOp) (outs:List Int) (at1 at2:List (TOp×Int)) (L:Nat->Bool)
theorem qdc:∀o,wx[0]? =some o->OpT Tryz.prog o (jv l ns x i k n ops ops1 outs at1 at2 false (L 1) (L 2) (L 3) (L 4) (L 5) (L 6) (L 7) (L 8) (L 9) (L 10) (L 11) (L 12) (L 13) (L 14) (L 15)) (jv l ns x i k n ops ops1 outs at1 at2 true (L 1) (L 2) (L 3) (L 4) (L 5) (L 6) (L 7) (L 8) (L 9) (L 10) (L 11) (L 12) (L 13) (L 14) (L 15)):=by
 intro o ho;have ho:some _=some o:=ho;cases ho
 refine yo hT2 rfl ?_;conv=>whnf
 exact rfl
theorem qdb:∀o,wx[1]? =some o->OpT Tryz.prog o (jv l ns x i k n ops ops1 outs at1 at2 (L 0) false (L 2) (L 3) (L 4) (L 5) (L 6) (L 7) (L 8) (L 9) (L 10) (L 11) (L 12) (L 13) (L 14) (L 15)) (jv l ns x i k n ops ops1 outs at1 at2 (L 0) true (L 2) (L 3) (L 4) (L 5) (L 6) (L 7) (L 8) (L 9) (L 10) (L 11) (L 12) (L 13) (L 14) (L 15)):=by
 intro o ho;have ho:some _=some o:=ho;cases ho
 refine yo hT2 rfl ?_;conv=>whnf
 exact rfl
theorem qda:∀o,wx[2]? =some o->OpT Tryz.prog o (jv l ns x i k n ops ops1 outs at1 at2 (L 0) true false (L 3) (L 4) (L 5) (L 6) (L 7) (L 8) (L 9) (L 10) (L 11) (L 12) (L 13) (L 14) (L 15)) (jv l ns x i k n ops ops1 outs at1 at2 (L 0) true true (L 3) (L 4) (L 5) (L 6) (L 7) (L 8) (L 9) (L 10) (L 11) (L 12) (L 13) (L 14) (L 15)):=by
 intro o ho;have ho:some _=some o:=ho;cases ho
 refine yo hT2 rfl ?_;conv=>whnf
 exact rfl
theorem qc9:∀o,wx[3]? =some o->OpT Tryz.prog o (jv l ns x i k n ops ops1 outs at1 at2 (L 0) (L 1) true false (L 4) (L 5) (L 6) (L 7) (L 8) (L 9) (L 10) (L 11) (L 12) (L 13) (L 14) (L 15)) (jv l ns x i k n ops ops1 outs at1 at2 (L 0) (L 1) true true (L 4) (L 5) (L 6) (L 7) (L 8) (L 9) (L 10) (L 11) (L 12) (L 13) (L 14) (L 15)):=by
 intro o ho;have ho:some _=some o:=ho;cases ho
 refine yo hT2 rfl ?_;conv=>whnf
 exact rfl
theorem qc8:∀o,wx[4]? =some o->OpT Tryz.prog o (jv l ns x i k n ops ops1 outs at1 at2 (L 0) (L 1) (L 2) true false (L 5) (L 6) (L 7) (L 8) (L 9) (L 10) (L 11) (L 12) (L 13) (L 14) (L 15)) (jv l ns x i k n ops ops1 outs at1 at2 (L 0) (L 1) (L 2) true true (L 5) (L 6) (L 7) (L 8) (L 9) (L 10) (L 11) (L 12) (L 13) (L 14) (L 15)):=by
 intro o ho;have ho:some _=some o:=ho;cases ho
 refine yo hT2 rfl ?_;conv=>whnf
 exact rfl
theorem qc7:∀o,wx[5]? =some o->OpT Tryz.prog o (jv l ns x i k n ops ops1 outs at1 at2 (L 0) (L 1) (L 2) (L 3) true false (L 6) (L 7) (L 8) (L 9) (L 10) (L 11) (L 12) (L 13) (L 14) false) (jv l ns x i k n ops ops1 outs at1 at2 (L 0) (L 1) (L 2) (L 3) true true (L 6) (L 7) (L 8) (L 9) (L 10) (L 11) (L 12) (L 13) (L 14) false):=by
 intro o ho;have ho:some _=some o:=ho;cases ho
 refine yo hT2 rfl ?_;conv=>whnf
 exact rfl
theorem qc6:∀o,wx[6]? =some o->OpT Tryz.prog o (jv l ns x i k n ops ops1 outs at1 at2 (L 0) (L 1) (L 2) (L 3) (L 4) (L 5) false (L 7) (L 8) (L 9) (L 10) (L 11) (L 12) (L 13) (L 14) (L 15)) (jv l ns x i k n ops ops1 outs at1 at2 (L 0) (L 1) (L 2) (L 3) (L 4) (L 5) true (L 7) (L 8) (L 9) (L 10) (L 11) (L 12) (L 13) (L 14) (L 15)):=by
 intro o ho;have ho:some _=some o:=ho;cases ho
 refine yo hT2 rfl ?_;conv=>whnf
 exact rfl
theorem qc5:∀o,wx[7]? =some o->OpT Tryz.prog o (jv l ns x i k n ops ops1 outs at1 at2 (L 0) (L 1) (L 2) (L 3) (L 4) (L 5) (L 6) false (L 8) (L 9) (L 10) (L 11) (L 12) (L 13) (L 14) (L 15)) (jv l ns x i k n ops ops1 outs at1 at2 (L 0) (L 1) (L 2) (L 3) (L 4) (L 5) (L 6) true (L 8) (L 9) (L 10) (L 11) (L 12) (L 13) (L 14) (L 15)):=by
 intro o ho;have ho:some _=some o:=ho;cases ho
 refine yo hT2 rfl ?_;conv=>whnf
 exact rfl
theorem qc4:∀o,wx[8]? =some o->OpT Tryz.prog o (jv l ns x i k n ops ops1 outs at1 at2 (L 0) (L 1) (L 2) (L 3) (L 4) (L 5) (L 6) (L 7) false (L 9) (L 10) (L 11) (L 12) (L 13) (L 14) (L 15)) (jv l ns x i k n ops ops1 outs at1 at2 (L 0) (L 1) (L 2) (L 3) (L 4) (L 5) (L 6) (L 7) true (L 9) (L 10) (L 11) (L 12) (L 13) (L 14) (L 15)):=by
 intro o ho;have ho:some _=some o:=ho;cases ho
 refine yo hT2 rfl ?_;conv=>whnf
 exact rfl
theorem qc3(hfn:FB 75 [100048] (bH 48 100048 200048 300048 n ops outs at1) [.ptr 48 0,.agg (exC x),.sl .str ns] (.int .i64 k) (bH 48 100048 200048 300048 n ops1 outs at2)):∀o,wx[9]? =some o->OpT Tryz.prog o (jv l ns x i k n ops ops1 outs at1 at2 (L 0) (L 1) (L 2) (L 3) (L 4) (L 5) true true true false (L 10) false (L 12) (L 13) (L 14) false) (jv l ns x i k n ops ops1 outs at1 at2 (L 0) (L 1) (L 2) (L 3) (L 4) (L 5) true true true true (L 10) false (L 12) (L 13) (L 14) false):=by
 intro o ho;have ho:some _=some o:=ho;cases ho
 refine zsa rfl rfl rfl (g:=75) (I:= [48,100048,200048,300048]) (B:= [100048]) (bs':=zdj (bH 48 100048 200048 300048 n ops1 outs at2)) (r:=.int .i64 k) rfl Z ?_ hfn rfl;intro i hi;simp only[List.mem_singleton]at hi;subst hi;simp only[jv,qf,AV.ids,zpy,exC,List.mem_append,List.append_nil,List.nil_append,cond_true,cond_false,not_or]
 repeat' apply q3
 all_goals first|(intro h;have:=zz2 h;simp at this;done)|(intro h;simp at h;done)
theorem zzu:∀o,wx[10]? =some o->OpT Tryz.prog o (jv l ns x i k n ops ops1 outs at1 at2 (L 0) (L 1) (L 2) (L 3) (L 4) (L 5) (L 6) (L 7) (L 8) true false (L 11) (L 12) (L 13) (L 14) (L 15)) (jv l ns x i k n ops ops1 outs at1 at2 (L 0) (L 1) (L 2) (L 3) (L 4) (L 5) (L 6) (L 7) (L 8) true true (L 11) (L 12) (L 13) (L 14) (L 15)):=by
 intro o ho;have ho:some _=some o:=ho;cases ho
 refine yo hT2 rfl ?_;conv=>whnf
 exact rfl
theorem zzt(hb:(outs.length+1)*8<=140737488355328):∀o,wx[11]? =some o->OpT Tryz.prog o (jv l ns x i k n ops ops1 outs at1 at2 (L 0) (L 1) (L 2) (L 3) (L 4) true (L 6) (L 7) (L 8) true true false (L 12) (L 13) (L 14) false) (jv l ns x i k n ops ops1 outs at1 at2 (L 0) (L 1) (L 2) (L 3) (L 4) true (L 6) (L 7) (L 8) true true true (L 12) (L 13) (L 14) false):=by
 intro o ho;have ho:some _=some o:=ho;cases ho
 refine yo hT2 rfl ?_;conv=>whnf
 refine⟨hb,?_⟩;conv=>whnf
 exact rfl
theorem zzs:∀o,wx[12]? =some o->OpT Tryz.prog o (jv l ns x i k n ops ops1 outs at1 at2 true (L 1) (L 2) (L 3) (L 4) (L 5) (L 6) (L 7) (L 8) (L 9) (L 10) (L 11) false (L 13) (L 14) (L 15)) (jv l ns x i k n ops ops1 outs at1 at2 true (L 1) (L 2) (L 3) (L 4) (L 5) (L 6) (L 7) (L 8) (L 9) (L 10) (L 11) true (L 13) (L 14) (L 15)):=by
 intro o ho;have ho:some _=some o:=ho;cases ho
 refine yo hT2 rfl ?_;conv=>whnf
 exact rfl
theorem zzr:∀o,wx[13]? =some o->OpT Tryz.prog o (jv l ns x i k n ops ops1 outs at1 at2 (L 0) (L 1) (L 2) (L 3) (L 4) (L 5) (L 6) (L 7) (L 8) (L 9) (L 10) (L 11) true false (L 14) (L 15)) (jv l ns x i k n ops ops1 outs at1 at2 (L 0) (L 1) (L 2) (L 3) (L 4) (L 5) (L 6) (L 7) (L 8) (L 9) (L 10) (L 11) true true (L 14) (L 15)):=by
 intro o ho;have ho:some _=some o:=ho;cases ho
 refine yo hT2 rfl ?_;conv=>whnf
 exact rfl
theorem zzq:∀o,wx[14]? =some o->OpT Tryz.prog o (jv l ns x i k n ops ops1 outs at1 at2 (L 0) (L 1) (L 2) (L 3) (L 4) (L 5) (L 6) (L 7) (L 8) (L 9) (L 10) (L 11) (L 12) true false (L 15)) (jv l ns x i k n ops ops1 outs at1 at2 (L 0) (L 1) (L 2) (L 3) (L 4) (L 5) (L 6) (L 7) (L 8) (L 9) (L 10) (L 11) (L 12) true true (L 15)):=by
 intro o ho;have ho:some _=some o:=ho;cases ho
 refine yo hT2 rfl ?_;conv=>whnf
 exact rfl
theorem zzp:∀o,wx[15]? =some o->OpT Tryz.prog o (jv l ns x i k n ops ops1 outs at1 at2 (L 0) (L 1) (L 2) (L 3) (L 4) (L 5) (L 6) (L 7) (L 8) (L 9) (L 10) true (L 12) (L 13) true false) (jv l ns x i k n ops ops1 outs at1 at2 (L 0) (L 1) (L 2) (L 3) (L 4) (L 5) (L 6) (L 7) (L 8) (L 9) (L 10) true (L 12) (L 13) true true):=by
 intro o ho;have ho:some _=some o:=ho;cases ho
 refine yo hT2 rfl ?_;conv=>whnf
 exact rfl
theorem qcn(hfn:FB 75 [100048] (bH 48 100048 200048 300048 n ops outs at1) [.ptr 48 0,.agg (exC x),.sl .str ns] (.int .i64 k) (bH 48 100048 200048 300048 n ops1 outs at2))(hb:(outs.length+1)*8<=140737488355328)
 (j:Nat) (o:Oper) (hcl:∀j oj,wx[j]? =some oj->L j=true->∀e∈oj.after,q8 .any e=true->L e.on=true) (ho:wx[j]? =some o) (hL:L j=false)
 (hd:∀e∈o.after,q8 .any e=true->L e.on=true):OpT Tryz.prog o (S17 l ns x i k n ops ops1 outs at1 at2 L) (S17 l ns x i k n ops ops1 outs at1 at2 (setF L j)):=by
 have dpq:∀ {j:Nat},wx[j]? =some o->∀q,((wx[j]?.map fun o=>o.after.toList.any fun e=>q8 .any e&&q2 e.on q)=some true)->L q=true:=fun {j}ho q hq=>by
  rw[ho]at hq;simp only[Option.map_some,Option.some.injEq,q6,Bool.and_eq_true]at hq;obtain⟨e,he,h1,h2⟩:=hq;have:=hd e (by simpa using he) h1;rw[(zb _ _).1 h2]at this;exact this
 have cl:∀a q,((wx[a]?.map fun o=>o.after.toList.any fun e=>q8 .any e&&q2 e.on q)=some true)->L a=true->L q=true:=fun a q hq ha=>by
  cases ho:wx[a]? with
  |none=>rw[ho]at hq;cases hq
  |some oa=>
   rw[ho]at hq;simp only[Option.map_some,Option.some.injEq,q6,Bool.and_eq_true]at hq;obtain⟨e,he,h1,h2⟩:=hq;have:=hcl a oa ho ha e (by simpa using he) h1;rw[(zb _ _).1 h2]at this;exact this
 have c11_9:L 11=true->L 9=true:=cl 11 9 OB;have c15_5:L 15=true->L 5=true:=cl 15 5 OB;have c15_9:L 15=true->L 9=true:=cl 15 9 OB;have c15_11:L 15=true->L 11=true:=cl 15 11 OB
 match j,ho,hL with
 |0,ho,hL=>
  have hall:=qdc l ns x i k n ops ops1 outs at1 at2 L o ho;have ho':some _=some o:=ho;have dp:∀q,((wx[0]?.map fun o=>o.after.toList.any fun e=>q8 .any e&&q2 e.on q)=some true)->L q=true:=dpq ho;show OpT Tryz.prog o (jv l ns x i k n ops ops1 outs at1 at2 (L 0) (L 1) (L 2) (L 3) (L 4) (L 5) (L 6) (L 7) (L 8) (L 9) (L 10) (L 11) (L 12) (L 13) (L 14) (L 15)) (jv l ns x i k n ops ops1 outs at1 at2 true (L 1) (L 2) (L 3) (L 4) (L 5) (L 6) (L 7) (L 8) (L 9) (L 10) (L 11) (L 12) (L 13) (L 14) (L 15));rw[hL];exact hall
 |1,ho,hL=>
  have hall:=qdb l ns x i k n ops ops1 outs at1 at2 L o ho;have ho':some _=some o:=ho;have dp:∀q,((wx[1]?.map fun o=>o.after.toList.any fun e=>q8 .any e&&q2 e.on q)=some true)->L q=true:=dpq ho;show OpT Tryz.prog o (jv l ns x i k n ops ops1 outs at1 at2 (L 0) (L 1) (L 2) (L 3) (L 4) (L 5) (L 6) (L 7) (L 8) (L 9) (L 10) (L 11) (L 12) (L 13) (L 14) (L 15)) (jv l ns x i k n ops ops1 outs at1 at2 (L 0) true (L 2) (L 3) (L 4) (L 5) (L 6) (L 7) (L 8) (L 9) (L 10) (L 11) (L 12) (L 13) (L 14) (L 15));rw[hL];exact hall
 |2,ho,hL=>
  have hall:=qda l ns x i k n ops ops1 outs at1 at2 L o ho;have ho':some _=some o:=ho;have dp:∀q,((wx[2]?.map fun o=>o.after.toList.any fun e=>q8 .any e&&q2 e.on q)=some true)->L q=true:=dpq ho;have e1:L 1=true:=dp 1 OB;show OpT Tryz.prog o (jv l ns x i k n ops ops1 outs at1 at2 (L 0) (L 1) (L 2) (L 3) (L 4) (L 5) (L 6) (L 7) (L 8) (L 9) (L 10) (L 11) (L 12) (L 13) (L 14) (L 15)) (jv l ns x i k n ops ops1 outs at1 at2 (L 0) (L 1) true (L 3) (L 4) (L 5) (L 6) (L 7) (L 8) (L 9) (L 10) (L 11) (L 12) (L 13) (L 14) (L 15));rw[hL,e1];exact hall
 |3,ho,hL=>
  have hall:=qc9 l ns x i k n ops ops1 outs at1 at2 L o ho;have ho':some _=some o:=ho;have dp:∀q,((wx[3]?.map fun o=>o.after.toList.any fun e=>q8 .any e&&q2 e.on q)=some true)->L q=true:=dpq ho;have e2:L 2=true:=dp 2 OB;show OpT Tryz.prog o (jv l ns x i k n ops ops1 outs at1 at2 (L 0) (L 1) (L 2) (L 3) (L 4) (L 5) (L 6) (L 7) (L 8) (L 9) (L 10) (L 11) (L 12) (L 13) (L 14) (L 15)) (jv l ns x i k n ops ops1 outs at1 at2 (L 0) (L 1) (L 2) true (L 4) (L 5) (L 6) (L 7) (L 8) (L 9) (L 10) (L 11) (L 12) (L 13) (L 14) (L 15));rw[hL,e2];exact hall
 |4,ho,hL=>
  have hall:=qc8 l ns x i k n ops ops1 outs at1 at2 L o ho;have ho':some _=some o:=ho;have dp:∀q,((wx[4]?.map fun o=>o.after.toList.any fun e=>q8 .any e&&q2 e.on q)=some true)->L q=true:=dpq ho;have e3:L 3=true:=dp 3 OB;show OpT Tryz.prog o (jv l ns x i k n ops ops1 outs at1 at2 (L 0) (L 1) (L 2) (L 3) (L 4) (L 5) (L 6) (L 7) (L 8) (L 9) (L 10) (L 11) (L 12) (L 13) (L 14) (L 15)) (jv l ns x i k n ops ops1 outs at1 at2 (L 0) (L 1) (L 2) (L 3) true (L 5) (L 6) (L 7) (L 8) (L 9) (L 10) (L 11) (L 12) (L 13) (L 14) (L 15));rw[hL,e3];exact hall
 |5,ho,hL=>
  have hall:=qc7 l ns x i k n ops ops1 outs at1 at2 L o ho;have ho':some _=some o:=ho;have dp:∀q,((wx[5]?.map fun o=>o.after.toList.any fun e=>q8 .any e&&q2 e.on q)=some true)->L q=true:=dpq ho;have e4:L 4=true:=dp 4 OB;have e15:L 15=false:=by
   cases h:L 15 with
   |false=>rfl
   |true=>have:=(c15_5 h);rw[hL]at this;cases this
  show OpT Tryz.prog o (jv l ns x i k n ops ops1 outs at1 at2 (L 0) (L 1) (L 2) (L 3) (L 4) (L 5) (L 6) (L 7) (L 8) (L 9) (L 10) (L 11) (L 12) (L 13) (L 14) (L 15)) (jv l ns x i k n ops ops1 outs at1 at2 (L 0) (L 1) (L 2) (L 3) (L 4) true (L 6) (L 7) (L 8) (L 9) (L 10) (L 11) (L 12) (L 13) (L 14) (L 15));rw[hL,e4,e15];exact hall
 |6,ho,hL=>
  have hall:=qc6 l ns x i k n ops ops1 outs at1 at2 L o ho;have ho':some _=some o:=ho;have dp:∀q,((wx[6]?.map fun o=>o.after.toList.any fun e=>q8 .any e&&q2 e.on q)=some true)->L q=true:=dpq ho;show OpT Tryz.prog o (jv l ns x i k n ops ops1 outs at1 at2 (L 0) (L 1) (L 2) (L 3) (L 4) (L 5) (L 6) (L 7) (L 8) (L 9) (L 10) (L 11) (L 12) (L 13) (L 14) (L 15)) (jv l ns x i k n ops ops1 outs at1 at2 (L 0) (L 1) (L 2) (L 3) (L 4) (L 5) true (L 7) (L 8) (L 9) (L 10) (L 11) (L 12) (L 13) (L 14) (L 15));rw[hL];exact hall
 |7,ho,hL=>
  have hall:=qc5 l ns x i k n ops ops1 outs at1 at2 L o ho;have ho':some _=some o:=ho;have dp:∀q,((wx[7]?.map fun o=>o.after.toList.any fun e=>q8 .any e&&q2 e.on q)=some true)->L q=true:=dpq ho;show OpT Tryz.prog o (jv l ns x i k n ops ops1 outs at1 at2 (L 0) (L 1) (L 2) (L 3) (L 4) (L 5) (L 6) (L 7) (L 8) (L 9) (L 10) (L 11) (L 12) (L 13) (L 14) (L 15)) (jv l ns x i k n ops ops1 outs at1 at2 (L 0) (L 1) (L 2) (L 3) (L 4) (L 5) (L 6) true (L 8) (L 9) (L 10) (L 11) (L 12) (L 13) (L 14) (L 15));rw[hL];exact hall
 |8,ho,hL=>
  have hall:=qc4 l ns x i k n ops ops1 outs at1 at2 L o ho;have ho':some _=some o:=ho;have dp:∀q,((wx[8]?.map fun o=>o.after.toList.any fun e=>q8 .any e&&q2 e.on q)=some true)->L q=true:=dpq ho;show OpT Tryz.prog o (jv l ns x i k n ops ops1 outs at1 at2 (L 0) (L 1) (L 2) (L 3) (L 4) (L 5) (L 6) (L 7) (L 8) (L 9) (L 10) (L 11) (L 12) (L 13) (L 14) (L 15)) (jv l ns x i k n ops ops1 outs at1 at2 (L 0) (L 1) (L 2) (L 3) (L 4) (L 5) (L 6) (L 7) true (L 9) (L 10) (L 11) (L 12) (L 13) (L 14) (L 15));rw[hL];exact hall
 |9,ho,hL=>
  have hall:=qc3 l ns x i k n ops ops1 outs at1 at2 L hfn o ho;have ho':some _=some o:=ho;have dp:∀q,((wx[9]?.map fun o=>o.after.toList.any fun e=>q8 .any e&&q2 e.on q)=some true)->L q=true:=dpq ho;have e6:L 6=true:=dp 6 OB;have e7:L 7=true:=dp 7 OB;have e8:L 8=true:=dp 8 OB;have e11:L 11=false:=by
   cases h:L 11 with
   |false=>rfl
   |true=>have:=(c11_9 h);rw[hL]at this;cases this
  have e15:L 15=false:=by
   cases h:L 15 with
   |false=>rfl
   |true=>have:=(c15_9 h);rw[hL]at this;cases this
  show OpT Tryz.prog o (jv l ns x i k n ops ops1 outs at1 at2 (L 0) (L 1) (L 2) (L 3) (L 4) (L 5) (L 6) (L 7) (L 8) (L 9) (L 10) (L 11) (L 12) (L 13) (L 14) (L 15)) (jv l ns x i k n ops ops1 outs at1 at2 (L 0) (L 1) (L 2) (L 3) (L 4) (L 5) (L 6) (L 7) (L 8) true (L 10) (L 11) (L 12) (L 13) (L 14) (L 15));rw[hL,e6,e7,e8,e11,e15];exact hall
 |10,ho,hL=>
  have hall:=zzu l ns x i k n ops ops1 outs at1 at2 L o ho;have ho':some _=some o:=ho;have dp:∀q,((wx[10]?.map fun o=>o.after.toList.any fun e=>q8 .any e&&q2 e.on q)=some true)->L q=true:=dpq ho;have e9:L 9=true:=dp 9 OB;show OpT Tryz.prog o (jv l ns x i k n ops ops1 outs at1 at2 (L 0) (L 1) (L 2) (L 3) (L 4) (L 5) (L 6) (L 7) (L 8) (L 9) (L 10) (L 11) (L 12) (L 13) (L 14) (L 15)) (jv l ns x i k n ops ops1 outs at1 at2 (L 0) (L 1) (L 2) (L 3) (L 4) (L 5) (L 6) (L 7) (L 8) (L 9) true (L 11) (L 12) (L 13) (L 14) (L 15));rw[hL,e9];exact hall
 |11,ho,hL=>
  have hall:=zzt l ns x i k n ops ops1 outs at1 at2 L hb o ho;have ho':some _=some o:=ho;have dp:∀q,((wx[11]?.map fun o=>o.after.toList.any fun e=>q8 .any e&&q2 e.on q)=some true)->L q=true:=dpq ho;have e5:L 5=true:=dp 5 OB;have e10:L 10=true:=dp 10 OB;have e9:L 9=true:=dp 9 OB;have e15:L 15=false:=by
   cases h:L 15 with
   |false=>rfl
   |true=>have:=(c15_11 h);rw[hL]at this;cases this
  show OpT Tryz.prog o (jv l ns x i k n ops ops1 outs at1 at2 (L 0) (L 1) (L 2) (L 3) (L 4) (L 5) (L 6) (L 7) (L 8) (L 9) (L 10) (L 11) (L 12) (L 13) (L 14) (L 15)) (jv l ns x i k n ops ops1 outs at1 at2 (L 0) (L 1) (L 2) (L 3) (L 4) (L 5) (L 6) (L 7) (L 8) (L 9) (L 10) true (L 12) (L 13) (L 14) (L 15));rw[hL,e5,e10,e9,e15];exact hall
 |12,ho,hL=>
  have hall:=zzs l ns x i k n ops ops1 outs at1 at2 L o ho;have ho':some _=some o:=ho;have dp:∀q,((wx[12]?.map fun o=>o.after.toList.any fun e=>q8 .any e&&q2 e.on q)=some true)->L q=true:=dpq ho;have e0:L 0=true:=dp 0 OB;show OpT Tryz.prog o (jv l ns x i k n ops ops1 outs at1 at2 (L 0) (L 1) (L 2) (L 3) (L 4) (L 5) (L 6) (L 7) (L 8) (L 9) (L 10) (L 11) (L 12) (L 13) (L 14) (L 15)) (jv l ns x i k n ops ops1 outs at1 at2 (L 0) (L 1) (L 2) (L 3) (L 4) (L 5) (L 6) (L 7) (L 8) (L 9) (L 10) (L 11) true (L 13) (L 14) (L 15));rw[hL,e0];exact hall
 |13,ho,hL=>
  have hall:=zzr l ns x i k n ops ops1 outs at1 at2 L o ho;have ho':some _=some o:=ho;have dp:∀q,((wx[13]?.map fun o=>o.after.toList.any fun e=>q8 .any e&&q2 e.on q)=some true)->L q=true:=dpq ho;have e12:L 12=true:=dp 12 OB;show OpT Tryz.prog o (jv l ns x i k n ops ops1 outs at1 at2 (L 0) (L 1) (L 2) (L 3) (L 4) (L 5) (L 6) (L 7) (L 8) (L 9) (L 10) (L 11) (L 12) (L 13) (L 14) (L 15)) (jv l ns x i k n ops ops1 outs at1 at2 (L 0) (L 1) (L 2) (L 3) (L 4) (L 5) (L 6) (L 7) (L 8) (L 9) (L 10) (L 11) (L 12) true (L 14) (L 15));rw[hL,e12];exact hall
 |14,ho,hL=>
  have hall:=zzq l ns x i k n ops ops1 outs at1 at2 L o ho;have ho':some _=some o:=ho;have dp:∀q,((wx[14]?.map fun o=>o.after.toList.any fun e=>q8 .any e&&q2 e.on q)=some true)->L q=true:=dpq ho;have e13:L 13=true:=dp 13 OB;show OpT Tryz.prog o (jv l ns x i k n ops ops1 outs at1 at2 (L 0) (L 1) (L 2) (L 3) (L 4) (L 5) (L 6) (L 7) (L 8) (L 9) (L 10) (L 11) (L 12) (L 13) (L 14) (L 15)) (jv l ns x i k n ops ops1 outs at1 at2 (L 0) (L 1) (L 2) (L 3) (L 4) (L 5) (L 6) (L 7) (L 8) (L 9) (L 10) (L 11) (L 12) (L 13) true (L 15));rw[hL,e13];exact hall
 |15,ho,hL=>
  have hall:=zzp l ns x i k n ops ops1 outs at1 at2 L o ho;have ho':some _=some o:=ho;have dp:∀q,((wx[15]?.map fun o=>o.after.toList.any fun e=>q8 .any e&&q2 e.on q)=some true)->L q=true:=dpq ho;have e14:L 14=true:=dp 14 OB;have e11:L 11=true:=dp 11 OB;show OpT Tryz.prog o (jv l ns x i k n ops ops1 outs at1 at2 (L 0) (L 1) (L 2) (L 3) (L 4) (L 5) (L 6) (L 7) (L 8) (L 9) (L 10) (L 11) (L 12) (L 13) (L 14) (L 15)) (jv l ns x i k n ops ops1 outs at1 at2 (L 0) (L 1) (L 2) (L 3) (L 4) (L 5) (L 6) (L 7) (L 8) (L 9) (L 10) (L 11) (L 12) (L 13) (L 14) true);rw[hL,e14,e11];exact hall
 |j+16,ho,_=>
  have hs:wx.size=16:=Z;have:=(Array.getElem?_eq_some_iff.1 ho).1;omega
end
structure Tp where
 ins:Int
 ops:List TOp
 outs:List Int
def tp0:Tp:=⟨0,[],[]⟩
abbrev tpC(t:Tp):List AV:= [.int .i64 t.ins,.sl .op t.ops,.sl .int t.outs]
abbrev cpV(p:Tp×Int):AV:=.tup [.agg (tpC p.1),.int .i64 p.2]
def zvp(ns:List zp)(e:Ex):Bool:=(nmE e).any (zqc ns)
def cpE(l:List Ex)(ns:List zp):Tp×Int:=
 if l.any zox=true\/ns.any zqh=true then(tp0,1)else if 8<ns.length\/200<l.length then(tp0,5)else if twB ns=true then(tp0,8)else if l.any (zvp ns)=true then(tp0,7)else
 if 200<(ndL ns.length ns l ([],[])).2.1.length \/200<(ndL ns.length ns l ([],[])).1.length then(tp0,5)else(⟨ns.length,(ndL ns.length ns l ([],[])).2.1,(ndL ns.length ns l ([],[])).1⟩,0)
theorem znm(ins:Int)(ns:List zp)(x:Ex):∀(l:List Ex)(st:BS),ndL ins ns (l++ [x]) st=((ndL ins ns l st).1++ [(ndE ins ns x (ndL ins ns l st).2).1],(ndE ins ns x (ndL ins ns l st).2).2)
 | [],st=>by simp[ndL]
 |y::l,st=>by simp only[List.cons_append,ndL,znm ins ns x l]
theorem znn(ins:Int)(ns:List zp):∀(l:List Ex)(st:BS),(ndL ins ns l st).1.length =l.length
 | [],st=>rfl
 |y::l,st=>by simp[ndL,znn ins ns l]
theorem zy2{l:List Ex}(h:∀x∈l,okT x=true):ze9 l<=200*l.length:=by
 induction l with
 |nil=>simp[ze9]
 |cons x l ih=>
  have h1:=((zfl x).1 (h x List.mem_cons_self)).2.2;have h2:=ih fun y hy=>h y (List.mem_cons_of_mem _ hy)
  simp only[ze9,q5];omega
noncomputable def qex:Code:=Tryz.f35.body.getD .skip
theorem f46(l:List Ex)(ns:List zp)(hl:∀x∈l,Sm x)(hll:l.length<9223372036854775808)(hns:∀x∈ns,x.length<9223372036854775808)(hnl:ns.length<9223372036854775808):
 Fn 35 [] [.sl .ex l,.sl .str ns] (cpV (cpE l ns)) []:=by
 obtain⟨A,hA⟩:∃A,cpE l ns=A:=⟨_,rfl⟩;rw[hA];unfold cpE at hA;refine vu (code:=qex) hT2 hmx Tryz.func35 rfl rfl (ex:= []) ?_;conv=>whnf
 refine jf hT2 hmx 4 (fun _:PLift (l.any zox=false/\ns.any zqh=false/\¬8<ns.length/\¬200<l.length/\twB ns=false/\l.any (zvp ns)=false)=>⟨[.sl .ex l,.any,.any,.ptr 3 0,.ptr 4 0,.any,.any,.any,.ptr 48 0]++zbh 69,
  [(3,.cells [.sl .str ns]),(4,.cells [.int .i64 0,.nilsl,.nilsl]),(7,.free),(48,.cells [.int .i64 ns.length,.own 100048,.own 200048,.mp 300048]),(100048,.buf 75 .op []),(200048,.buf 3 .int []),(300048,.map .op .int []),(10,.free),(66,.free),(100066,.free),(1500066,.free)]⟩) (fun _=>Z) ?_ (fun hx=>?_)
 rotate_left
 .obtain⟨⟨h1,h2,h3,h4,h5,h6⟩⟩:=hx;rw[Z5 (by rw[h1,h2];simp),Z5 O,Z5 (by rw[h5];simp),Z5 (by rw[h6];simp)]at hA;have hok:∀x∈l,okT x=true:=fun x hx=>by
   have:=(List.any_eq_false.1 h1) x hx;simpa[zox]using this
  refine xf hT2 hmx [17,19] ?_;conv=>whnf
  refine⟨Nat,fun i=>i<=l.length,fun i=> [(51,.int .i64 i)],fun i=> [(100048,.buf 75 .op (ndL ns.length ns (l.take i) ([],[])).2.1),(200048,.buf 3 .int (ndL ns.length ns (l.take i) ([],[])).1),(300048,.map .op .int (ndL ns.length ns (l.take i) ([],[])).2.2)],fun i=>l.length-i,0,O,?_,fun i hi=>?_⟩
  .exact KZ0
  refine gYe ?_;have hi:i<=l.length:=hi;refine brI (fun h7=>?_) (fun h7=>?_)
  .conv=>whnf
   have hi:i<l.length:=by simp only[Z2]at h7;omega
   refine⟨⟨O,O⟩,fun x hx=>?_⟩;have hx:l[i]? =some x:=by simpa using hx
   have hm:=q1 hx;have htk:l.take (i+1)=l.take i++ [x]:=by rw[List.take_add_one,hx];rfl
   have hsn:=znm ns.length ns x (l.take i) ([],[]);rw[<-htk]at hsn;have hlo:=znn ns.length ns (l.take i) ([],[]);have hls:=zly ns.length ns (l.take i) ([],[]);have hsz:=zy2 (l:=l.take i) fun y hy=>hok y (List.mem_of_mem_take hy)
   have hsx:=((zfl x).1 (hok x hm)).2.2;have h94:=f94 ns.length ns (ndL ns.length ns (l.take i) ([],[])).1 O O hnl (zni (hok x hm)) (ndL ns.length ns (l.take i) ([],[])).2 (by
    rw[q4]at hsz;simp only[q7]at hls;omega)
   obtain⟨R,hR⟩:∃R,ndL ns.length ns (l.take i) ([],[])=R:=⟨_,rfl⟩;rw[hR]at hsn hlo h94⊢;obtain⟨outs,ops,at1⟩:=R;obtain⟨Q,hQ⟩:∃Q,ndE ns.length ns x (ops,at1)=Q:=⟨_,rfl⟩;simp only at hsn h94 hlo;rw[hQ]at hsn h94;obtain⟨k,ops1,at2⟩:=Q;conv=>whnf
   refine zct 200048 66 ?_;refine zqp hmx (S17 l ns x i k ns.length ops ops1 outs at1 at2) Z ?_ Z (fun q=>qcn l ns x i k ns.length ops ops1 outs at1 at2 q (h94.sw [(48,1000001),(100048,1700002),(200048,1000003),(300048,1000004)] rfl) ?_) ?_
   .exact KZ0
   .rw[q4]at hlo;omega
   .refine⟨Z,?_⟩;conv=>whnf
    refine⟨i+1,O,by show l.length-(i+1)<l.length-i;omega,?_⟩
    ((conv=>whnf);refine q3 ?_ ?_;repeat' first|refine lc ?_ ?_|refine lh1 ?_ ?_|refine bc0 ?_|exact KXZ|refine lg0 ?_|refine lt0 ?_)
    .exact ai0 (by rw[wI O];omega)
    .exact bb0 (by rw[hsn];rfl)
    .exact bb0 (by rw[hsn])
    .exact bm0 (by rw[hsn];rfl)
  .have hi:i=l.length:=by simp only[Z3]at h7;omega
   subst hi;rw[List.take_length];obtain⟨R,hR⟩:∃R,ndL ns.length ns l ([],[])=R:=⟨_,rfl⟩;rw[hR]at hA⊢;obtain⟨outs,ops,at1⟩:=R;have h95:=(f95 ns.length ops outs at1).sw [(48,1000001),(100048,1000002),(200048,1000003),(300048,1000004)] rfl;simp only at hA;by_cases h8:200<ops.length\/200<outs.length
   .rw[Z4 h8]at hA;subst hA;rw[show(decide (200<ops.length)||decide (200<outs.length))=true by simpa using h8]at h95;conv=>whnf
    refine wt hT2 1 ?_;conv=>whnf
    refine⟨42,[48,100048,200048,300048],[],zdj (bH 48 100048 200048 300048 ns.length ops outs at1),.bool true,rfl,Z,h95,?_⟩;conv=>whnf
    exact⟨lt0 (lc (lg0 (lc (lr rfl) (lc (li0 rfl) (lc (li0 rfl) ln0)))) (lc (lr rfl) ln0)),lh0⟩
   .rw[Z5 h8]at hA;subst hA;rw[show(decide (200<ops.length)||decide (200<outs.length))=false by simpa using h8]at h95;conv=>whnf
    refine wt hT2 1 ?_;conv=>whnf
    refine⟨42,[48,100048,200048,300048],[],zdj (bH 48 100048 200048 300048 ns.length ops outs at1),.bool false,rfl,Z,h95,?_⟩;conv=>whnf
    exact⟨lr rfl,lh0⟩
 conv=>whnf
 refine cbI [] (l.any zox) (f60b l hl hll) (fun h1=>?_) (fun h1=>?_)
 .rw[Z4 (.inl h1)]at hA;subst hA;conv=>whnf
  exact⟨lt0 (lc (lg0 (lc (lr rfl) (lc (li0 rfl) (lc (li0 rfl) ln0)))) (lc (lr rfl) ln0)),lh0⟩
 conv=>whnf
 refine cbI [] (ns.any zqh) (f32b ns hns hnl) (fun h2=>?_) (fun h2=>?_)
 .rw[Z4 (.inr h2)]at hA;subst hA;conv=>whnf
  exact⟨lt0 (lc (lg0 (lc (lr rfl) (lc (li0 rfl) (lc (li0 rfl) ln0)))) (lc (lr rfl) ln0)),lh0⟩
 rw[Z5 (by rw[h1,h2];simp)]at hA;conv=>whnf
 refine brI (fun h3=>?_) (fun h3=>?_)
 .have h3:8<ns.length:=by simp only[Z2]at h3;omega
  rw[Z4 (.inl h3)]at hA;subst hA;conv=>whnf
  exact⟨lt0 (lc (lg0 (lc (lr rfl) (lc (li0 rfl) (lc (li0 rfl) ln0)))) (lc (lr rfl) ln0)),lh0⟩
 have h3:¬8<ns.length:=by simp only[Z3]at h3;omega
 conv=>whnf
 refine brI (fun h4=>?_) (fun h4=>?_)
 .have h4:200<l.length:=by simp only[Z2]at h4;omega
  rw[Z4 (.inr h4)]at hA;subst hA;conv=>whnf
  exact⟨lt0 (lc (lg0 (lc (lr rfl) (lc (li0 rfl) (lc (li0 rfl) ln0)))) (lc (lr rfl) ln0)),lh0⟩
 have h4:¬200<l.length:=by simp only[Z3]at h4;omega
 rw[Z5 O]at hA;conv=>whnf
 refine cbI [] (twB ns) (f90 ns hnl) (fun h5=>?_) (fun h5=>?_)
 .rw[Z4 h5]at hA;subst hA;conv=>whnf
  exact⟨lt0 (lc (lg0 (lc (lr rfl) (lc (li0 rfl) (lc (li0 rfl) ln0)))) (lc (lr rfl) ln0)),lh0⟩
 rw[Z5 (by rw[h5];simp)]at hA;conv=>whnf
 refine⟨Nat,fun i=>i<=l.length/\(l.drop i).any (zvp ns)=l.any (zvp ns),fun i=> [(35,.int .i64 i)],fun _=> [],fun i=>l.length-i,0,⟨OC,rfl⟩,?_,fun i hi=>?_⟩
 .exact KZ0
 refine gYe ?_;obtain⟨hi1,hi2⟩:=hi;refine brI (fun h6=>?_) (fun h6=>?_)
 .conv=>whnf
  have hi:i<l.length:=by simp only[Z2]at h6;omega
  refine⟨⟨O,O⟩,fun x hx=>?_⟩;have hx:l[i]? =some x:=by simpa using hx
  have hm:=q1 hx;rw[va hx]at hi2;simp only[List.any_cons]at hi2;conv=>whnf
  refine gZn (f91 x (hl x hm)) ?_;have hnl2:(nmE x).length <=1000:=by
   have g1:=zhw (zpb (zg9 (zje x)));have g2:(zpb (zg9 (zje x))).length =(zg9 (zje x)).length :=List.length_mergeSort _;have g3:=zio (zje x);have g4:=zmq x;have g5:=zxa x;unfold nmE;omega
  conv=>whnf
  refine cbI [.cells [.sl .str ns]] (zvp ns x) ((f32c ns hnl (nmE x) O).sw [(3,1000003)] rfl) (fun h7=>?_) (fun h7=>?_)
  .conv=>whnf
   have h8:l.any (zvp ns)=true:=by rw[<-hi2,h7];rfl
   rw[Z4 h8]at hA;subst hA;exact⟨lt0 (lc (lg0 (lc (lr rfl) (lc (li0 rfl) (lc (li0 rfl) ln0)))) (lc (lr rfl) ln0)),lh0⟩
  .conv=>whnf
   rw[h7]at hi2;refine⟨i+1,⟨O,by simpa using hi2⟩,by show l.length-(i+1)<l.length-i;omega,?_⟩;exact KZ0
 have hi:¬i<l.length:=by simp only[Z3]at h6;omega
 have h6:l.any (zvp ns)=false:=by rw[<-hi2,q0 O];rfl
 rw[Z5 (by rw[h6];simp)]at hA;clear hi1 hi2 hi;conv=>whnf
 refine⟨[],zdj (bH 2000000 2000001 2000002 2000003 ns.length [] [] []),.ptr 2000000 0,f93 ns.length,?_⟩;conv=>whnf
 refine⟨⟨h1,h2,h3,h4,h5,h6⟩,?_⟩;exact KZ0
