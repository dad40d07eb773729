/-
  The tape: the type table with the maps of operations.
-/
import Derived.Test.YtlocddfailmnpaaGreatDoorQUb
import Derived.Test.YtlocddfailmnpaaGreatDoorQZz
import Derived.Test.YtlocddfailmnpaaGreatDoorQVa
import Derived.Test.YtlocddfailmnpaaGreatDoorQWx
set_option linter.unusedVariables false
set_option linter.unusedSimpArgs false
namespace Go.Proofs.YtlocddfailmnpaaGreatDoor
open Go Go.Sx
def Ty2:List (Nat×TI):=Ty++ [
 (88,⟨9,1,[],39,0,3,none,.i64,[.nilm],8,false⟩)]
def T2:Tab:= {ty:=Ty2,of:= [107,108],nb:= [(106,1),(58,4),(108,1),(112,1)]}
theorem eq72:zwd Tryz.prog 39 opZ:=zxf (by kernel_rfl)
theorem key72:KeyOK Tryz.prog 39 .op :=zvc Tryz.underlying39 eq72 (fun w b x=>by kernel_rfl)
theorem key3:KeyOK Tryz.prog 3 .int :=zsl Tryz.underlying3
theorem hT2:TabOK Tryz.prog T2:=zx6 key72 key3 (by kernel_rfl) (by kernel_rfl)
abbrev FB (f:Nat) (B:List Nat) (H:Hp) (A:List AV) (r:AV) (H':Hp):Prop:=zwb Tryz.prog f B H A r H'
def bH (b o u m:Nat) (ins:Int) (ops:List TOp) (outs:List Int) (at':List (TOp×Int)):Hp:=
 [(b,.cells [.int .i64 ins,.own o,.own u,.mp m]),(o,.buf 39 .op ops),(u,.buf 3 .int outs),(m,.map .op .int at')]
end Go.Proofs.YtlocddfailmnpaaGreatDoor

namespace Go.Proofs.YtlocddfailmnpaaGreatDoor
open Go Go.Sx
set_option maxRecDepth 100000
set_option maxHeartbeats 8000000
noncomputable def zti:Code:=Tryz.f65.body.getD .skip
abbrev bP (ins:Int) (ops:List TOp) (outs:List Int) (at':List (TOp×Int)):Hp:=bH 1000001 1700002 1000003 1000004 ins ops outs at'
theorem zvr (ins:Int) (ops:List TOp) (outs:List Int) (at':List (TOp×Int)) (x:TOp) (h:znh .op x at'=true):
 FB 65 [1700002] (bP ins ops outs at') [.ptr 1000001 0,.agg (Elt.op.cells x)] (.int .i64 (zjx .op x 0 at')) (bP ins ops outs at'):=by
 refine uf (code:=zti) hT2 Tryz.func65 rfl rfl [1700002,1000003] ?_;conv=>whnf
 refine wj hT2 hmx ?_;conv=>whnf
 (refine⟨by kernel_rfl,by kernel_rfl,?_⟩;(conv=>whnf))
 refine brI (fun _=>?_) (fun h'=>absurd (show znh .op x at'=false from h') (by rw[h];simp))
 conv=>whnf
 exact⟨lr rfl,lh1 (bc0 (lc (lr rfl) (lc (lr rfl) (lc (lr rfl) (lc (lr rfl) ln0))))) (lh1 (bb0 rfl) (lh1 (bb0 rfl) (lh1 (bm0 rfl) lh0)))⟩
theorem zvs (ins:Int) (ops:List TOp) (outs:List Int) (at':List (TOp×Int)) (x:TOp) (h:znh .op x at'=false) (h0:0≤ins) (h1:ins≤1000) (h2:ops.length≤1000000):
 FB 65 [1700002] (bP ins ops outs at') [.ptr 1000001 0,.agg (Elt.op.cells x)] (.int .i64 (ins+ops.length)) (bP ins (ops++ [x]) outs (zju .op x (ins+ops.length) at')):=by
 refine uf (code:=zti) hT2 Tryz.func65 rfl rfl [1700002,1000003] ?_;conv=>whnf
 refine kf hT2 hmx 4 (fun _:Unit=>⟨[.ptr 1000001 0,.any,.any,.ptr 3 0,.any,.any,.any,.int .i64 (ins+ops.length)]++zd0 42,
  [(3,.cells (Elt.op.cells x)),(39,.free),(100039,.free),(1500039,.buf 39 .op (ops++ [x])),(1000001,.cells [.int .i64 ins,.own 1500039,.own 1000003,.mp 1000004]),(1700002,.dead),(1000003,.buf 3 .int outs),(1000004,.map .op .int at')]⟩) (fun _=>by kernel_rfl) ?_ (fun _=>?_)
 ·conv=>whnf
  (refine⟨by kernel_rfl,by kernel_rfl,?_⟩;(conv=>whnf))
  refine brI (fun h'=>absurd (show znh .op x at'=true from h') (by rw[h];simp)) (fun _=>?_)
  conv=>whnf
  (refine⟨by kernel_rfl,by kernel_rfl,?_⟩;(conv=>whnf))
  conv=>whnf
  refine⟨by simp only[List.length_cons,List.length_nil];omega,?_⟩;conv=>whnf
  (refine⟨by kernel_rfl,by kernel_rfl,?_⟩;(conv=>whnf))
  refine⟨(),?_⟩
  ((conv=>whnf);refine And.intro ?_ ?_;repeat' first|refine lc ?_ ?_|exact la0|exact lr rfl|exact ln0|refine lh1 ?_ ?_|exact lh0|exact bf0|exact bd0|refine bc0 ?_|exact bm0 rfl|exact bg0 rfl|exact li0 rfl|refine lg0 ?_|refine lt0 ?_|fail)
  ·exact ai0 (by rw[wI (by omega)])
  all_goals first|exact bb0 rfl|exact bm0 rfl
 ·refine zec 1700002 1500039 (by kernel_rfl) ?_
  refine wj hT2 hmx ?_;conv=>whnf
  (refine⟨by kernel_rfl,by kernel_rfl,?_⟩;(conv=>whnf))
  exact⟨lr rfl,lh1 (bc0 (lc (lr rfl) (lc (lr rfl) (lc (lr rfl) (lc (lr rfl) ln0))))) (lh1 (bb0 rfl) (lh1 (bb0 rfl) (lh1 (bm0 rfl) lh0)))⟩
end Go.Proofs.YtlocddfailmnpaaGreatDoor

namespace Go.Proofs.YtlocddfailmnpaaGreatDoor
open Go Go.Sx
set_option maxRecDepth 100000
set_option maxHeartbeats 8000000
abbrev BS:=List TOp×List (TOp×Int)
def zpa (ins:Int) (x:TOp) (s:BS):Int×BS:=if znh .op x s.2=true then(zjx .op x 0 s.2,s)else(ins+s.1.length,(s.1++ [x],zju .op x (ins+s.1.length) s.2))
def at0:List Int→Int
 |a::_=>a
 | _=>0
def at1:List Int→Int
 | _::b::_=>b
 | _=>0
mutual
def ndE (ins:Int) (ns:List zg):Ex→BS→Int×BS
 | .mk k q s p l,st=>if k=2 then(ixP (eqS s) ns 0,st)else zpa ins ⟨k,at0 (ndL ins ns l st).1,at1 (ndL ins ns l st).1,p,q⟩ (ndL ins ns l st).2
def ndL (ins:Int) (ns:List zg):List Ex→BS→List Int×BS
 | [],st=>([],st)
 |x::l,st=>((ndE ins ns x st).1::(ndL ins ns l (ndE ins ns x st).2).1,(ndL ins ns l (ndE ins ns x st).2).2)
end
theorem zyq (ins:Int) (x:TOp) (s:BS):(zpa ins x s).2.1.length ≤s.1.length+1:=by
 unfold zpa;split<;>simp
mutual
theorem zm7 (ins:Int) (ns:List zg): ∀(e:Ex) (st:BS),(ndE ins ns e st).2.1.length ≤st.1.length+zdc e
 | .mk k q s p l,st=>by
   have h1:=zln ins ns l st
   simp only[ndE,zdc]
   split
   ·simp only;omega
   ·have h2:=zyq ins ⟨k,at0 (ndL ins ns l st).1,at1 (ndL ins ns l st).1,p,q⟩ (ndL ins ns l st).2
    omega
theorem zln (ins:Int) (ns:List zg): ∀(l:List Ex) (st:BS),(ndL ins ns l st).2.1.length ≤st.1.length+zea l
 | [],st=>by simp[ndL]
 |x::l,st=>by
  have h1:=zm7 ins ns x st
  have h2:=zln ins ns l (ndE ins ns x st).2
  simp only[ndL,zea];omega
end
theorem f141 (ins:Int) (outs:List Int) (x:TOp) (s:BS) (h0:0≤ins) (h1:ins≤1000) (h2:s.1.length≤1000000):
 FB 65 [1700002] (bP ins s.1 outs s.2) [.ptr 1000001 0,.agg (Elt.op.cells x)] (.int .i64 (zpa ins x s).1) (bP ins (zpa ins x s).2.1 outs (zpa ins x s).2.2):=by
 unfold zpa
 cases h:znh .op x s.2 with
 |true=>simp only[if_true];exact zvr ins s.1 outs s.2 x h
 |false=>simp only[Bool.false_eq_true,if_false];exact zvs ins s.1 outs s.2 x h h0 h1 h2
abbrev IB:List Nat:= [1000001,1700002,1000003,1000004]
abbrev zxp (ins:Int) (ns:List zg) (outs:List Int) (e:Ex):Prop:= ∀st:BS,st.1.length+zdc e≤1000000→
 FB 59 [1700002] (bP ins st.1 outs st.2) [.ptr 1000001 0,.agg (exC e),.sl .str ns] (.int .i64 (ndE ins ns e st).1) (bP ins (ndE ins ns e st).2.1 outs (ndE ins ns e st).2.2)
noncomputable def zoj:Code:=Tryz.f59.body.getD .skip
section
variable (ins:Int) (ns:List zg) (outs:List Int) (h0:0≤ins) (h1:ins≤1000) (hn:ns.length<9223372036854775808)
include hn in
theorem zzw (s:zg):zxp ins ns outs (zky s):=by
 intro st _
 have e:ndE ins ns (zky s) st=(ixP (eqS s) ns 0,st):=by simp[zky,ndE]
 rw[e]
 refine uf (code:=zoj) hT2 Tryz.func59 rfl rfl [1700002,1000003] ?_;conv=>whnf
 refine xq hT2 hmx [7,12] ?_;conv=>whnf
 refine gZn (f106 ns s hn) ?_;conv=>whnf
 (refine And.intro ?_ ?_;repeat' first|refine lc ?_ ?_|exact la0|exact lr rfl|exact ln0|refine lh1 ?_ ?_|exact lh0|exact bf0|exact bd0|refine bc0 ?_|exact bm0 rfl|exact bb0 rfl|exact bg0 rfl|exact li0 rfl|refine lg0 ?_|refine lt0 ?_|fail)
include h0 h1 in
theorem zzy (r:Rt):zxp ins ns outs (zix r):=by
 intro st hst
 have e:ndE ins ns (zix r) st=zpa ins ⟨1,0,0,0,r⟩ st:=by simp[zix,ndE,ndL,at0,at1]
 have hp:=f141 ins outs ⟨1,0,0,0,r⟩ st h0 h1 (by simp[zix,zdc,zea]at hst;omega)
 rw[e]
 obtain⟨A,hA⟩: ∃A,zpa ins ⟨1,0,0,0,r⟩ st=A:=⟨_,rfl⟩
 rw[hA]at hp⊢
 obtain⟨k,ops,at'⟩:=A
 refine uf (code:=zoj) hT2 Tryz.func59 rfl rfl [1700002,1000003] ?_;conv=>whnf
 refine xq hT2 hmx [7,12] ?_;conv=>whnf
 refine⟨Unit,fun _=>True,fun _=> [(28,.int .i64 0)],fun _=> [],fun _=>0,(),trivial,?_,fun _ _=>?_⟩
 ·((conv=>whnf);refine And.intro ?_ ?_;repeat' first|refine lc ?_ ?_|exact la0|exact lr rfl|exact ln0|refine lh1 ?_ ?_|exact lh0|exact bf0|exact bd0|refine bc0 ?_|exact bm0 rfl|exact bb0 rfl|exact bg0 rfl|exact li0 rfl|refine lg0 ?_|refine lt0 ?_|fail)
 (refine⟨by kernel_rfl,?_⟩;(conv=>whnf))
 refine uc hT2 2 ?_;conv=>whnf
 refine⟨65,IB,[1700002],zf2 (bP ins ops outs at'),.int .i64 k,rfl,by kernel_rfl,hp,?_⟩;conv=>whnf
 (refine And.intro ?_ ?_;repeat' first|refine lc ?_ ?_|exact la0|exact lr rfl|exact ln0|refine lh1 ?_ ?_|exact lh0|exact bf0|exact bd0|refine bc0 ?_|exact bm0 rfl|exact bb0 rfl|exact bg0 rfl|exact li0 rfl|refine lg0 ?_|refine lt0 ?_|fail)
include h0 h1 in
theorem zsv (k n:Int) (a:Ex) (hk:k≠2) (ha:zxp ins ns outs a):zxp ins ns outs (opE k n [a]):=by
 intro st hst
 have e:ndE ins ns (opE k n [a]) st=zpa ins ⟨k,(ndE ins ns a st).1,0,n,⟨0,0⟩⟩ (ndE ins ns a st).2:=by simp[opE,ndE,ndL,at0,at1,hk]
 have hsz:zdc (opE k n [a])=zdc a+1:=by simp[opE,zdc,zea]
 have hl:=zm7 ins ns a st
 have hpa:=ha st (by omega)
 rw[e]
 obtain⟨A,hA⟩: ∃A,ndE ins ns a st=A:=⟨_,rfl⟩
 rw[hA]at hpa hl⊢
 obtain⟨i0,st1⟩:=A
 have hp:=f141 ins outs ⟨k,i0,0,n,⟨0,0⟩⟩ st1 h0 h1 (by simp only at hl;omega)
 simp only
 obtain⟨B,hB⟩: ∃B,zpa ins ⟨k,i0,0,n,⟨0,0⟩⟩ st1=B:=⟨_,rfl⟩
 rw[hB]at hp⊢
 obtain⟨j,ops,at'⟩:=B
 refine uf (code:=zoj) hT2 Tryz.func59 rfl rfl [1700002,1000003] ?_;conv=>whnf
 refine xq hT2 hmx [7,12] ?_;conv=>whnf
 refine brI (fun h=>absurd (show k=2 by simpa[opE,Ex.k]using h) hk) (fun _=>?_)
 conv=>whnf
 refine⟨Nat,fun x=>x≤1,fun x=> [(28,.int .i64 x)],fun x=>match x with
  |0=> [(7,.cells (Elt.op.cells ⟨k,0,0,n,⟨0,0⟩⟩)),(1700002,.buf 39 .op st.1),(1000004,.map .op .int st.2)]
  | _=> [(7,.cells (Elt.op.cells ⟨k,i0,0,n,⟨0,0⟩⟩)),(1700002,.buf 39 .op st1.1),(1000004,.map .op .int st1.2)],fun x=>1-x,0,by omega,?_,fun x hx=>?_⟩
 ·((conv=>whnf);refine And.intro ?_ ?_;repeat' first|refine lc ?_ ?_|exact la0|exact lr rfl|exact ln0|refine lh1 ?_ ?_|exact lh0|exact bf0|exact bd0|refine bc0 ?_|exact bm0 rfl|exact bb0 rfl|exact bg0 rfl|exact li0 rfl|refine lg0 ?_|refine lt0 ?_|fail)
 rcases(show x=0∨x=1 by omega)with rfl|rfl
 ·(refine⟨by kernel_rfl,?_⟩;(conv=>whnf))
  refine ix0 ?_;conv=>whnf
  refine uc hT2 3 ?_;conv=>whnf
  refine⟨59,IB,[1700002],zf2 (bP ins st1.1 outs st1.2),.int .i64 i0,rfl,by kernel_rfl,hpa,?_⟩;conv=>whnf
  refine⟨1,by omega,by decide,?_⟩
  ((conv=>whnf);refine And.intro ?_ ?_;repeat' first|refine lc ?_ ?_|exact la0|exact lr rfl|exact ln0|refine lh1 ?_ ?_|exact lh0|exact bf0|exact bd0|refine bc0 ?_|exact bm0 rfl|exact bb0 rfl|exact bg0 rfl|exact li0 rfl|refine lg0 ?_|refine lt0 ?_|fail)
 ·(refine⟨by kernel_rfl,?_⟩;(conv=>whnf))
  refine uc hT2 2 ?_;conv=>whnf
  refine⟨65,IB,[1700002],zf2 (bP ins ops outs at'),.int .i64 j,rfl,by kernel_rfl,hp,?_⟩;conv=>whnf
  (refine And.intro ?_ ?_;repeat' first|refine lc ?_ ?_|exact la0|exact lr rfl|exact ln0|refine lh1 ?_ ?_|exact lh0|exact bf0|exact bd0|refine bc0 ?_|exact bm0 rfl|exact bb0 rfl|exact bg0 rfl|exact li0 rfl|refine lg0 ?_|refine lt0 ?_|fail)
include h0 h1 in
theorem zzx (k:Int) (a b:Ex) (hk:k≠2) (ha:zxp ins ns outs a) (hb:zxp ins ns outs b):zxp ins ns outs (opE k 0 [a,b]):=by
 intro st hst
 have e:ndE ins ns (opE k 0 [a,b]) st=zpa ins ⟨k,(ndE ins ns a st).1,(ndE ins ns b (ndE ins ns a st).2).1,0,⟨0,0⟩⟩ (ndE ins ns b (ndE ins ns a st).2).2:=by simp[opE,ndE,ndL,at0,at1,hk]
 have hsz:zdc (opE k 0 [a,b])=zdc a+zdc b+1:=by simp[opE,zdc,zea]
 have hl:=zm7 ins ns a st
 have hpa:=ha st (by omega)
 rw[e]
 obtain⟨A,hA⟩: ∃A,ndE ins ns a st=A:=⟨_,rfl⟩
 rw[hA]at hpa hl⊢
 obtain⟨i0,st1⟩:=A
 simp only at hl⊢
 have hl2:=zm7 ins ns b st1
 have hpb:=hb st1 (by omega)
 obtain⟨C,hC⟩: ∃C,ndE ins ns b st1=C:=⟨_,rfl⟩
 rw[hC]at hpb hl2⊢
 obtain⟨i1,st2⟩:=C
 simp only at hl2⊢
 have hp:=f141 ins outs ⟨k,i0,i1,0,⟨0,0⟩⟩ st2 h0 h1 (by omega)
 obtain⟨B,hB⟩: ∃B,zpa ins ⟨k,i0,i1,0,⟨0,0⟩⟩ st2=B:=⟨_,rfl⟩
 rw[hB]at hp⊢
 obtain⟨j,ops,at'⟩:=B
 refine uf (code:=zoj) hT2 Tryz.func59 rfl rfl [1700002,1000003] ?_;conv=>whnf
 refine xq hT2 hmx [7,12] ?_;conv=>whnf
 refine brI (fun h=>absurd (show k=2 by simpa[opE,Ex.k]using h) hk) (fun _=>?_)
 conv=>whnf
 refine⟨Nat,fun x=>x≤2,fun x=> [(28,.int .i64 x)],fun x=>match x with
  |0=> [(7,.cells (Elt.op.cells ⟨k,0,0,0,⟨0,0⟩⟩)),(1700002,.buf 39 .op st.1),(1000004,.map .op .int st.2)]
  |1=> [(7,.cells (Elt.op.cells ⟨k,i0,0,0,⟨0,0⟩⟩)),(1700002,.buf 39 .op st1.1),(1000004,.map .op .int st1.2)]
  | _=> [(7,.cells (Elt.op.cells ⟨k,i0,i1,0,⟨0,0⟩⟩)),(1700002,.buf 39 .op st2.1),(1000004,.map .op .int st2.2)],fun x=>2-x,0,by omega,?_,fun x hx=>?_⟩
 ·((conv=>whnf);refine And.intro ?_ ?_;repeat' first|refine lc ?_ ?_|exact la0|exact lr rfl|exact ln0|refine lh1 ?_ ?_|exact lh0|exact bf0|exact bd0|refine bc0 ?_|exact bm0 rfl|exact bb0 rfl|exact bg0 rfl|exact li0 rfl|refine lg0 ?_|refine lt0 ?_|fail)
 rcases(show x=0∨x=1∨x=2 by omega)with rfl|rfl|rfl
 ·(refine⟨by kernel_rfl,?_⟩;(conv=>whnf))
  refine ix0 ?_;conv=>whnf
  refine uc hT2 3 ?_;conv=>whnf
  refine⟨59,IB,[1700002],zf2 (bP ins st1.1 outs st1.2),.int .i64 i0,rfl,by kernel_rfl,hpa,?_⟩;conv=>whnf
  refine⟨1,by omega,by decide,?_⟩
  ((conv=>whnf);refine And.intro ?_ ?_;repeat' first|refine lc ?_ ?_|exact la0|exact lr rfl|exact ln0|refine lh1 ?_ ?_|exact lh0|exact bf0|exact bd0|refine bc0 ?_|exact bm0 rfl|exact bb0 rfl|exact bg0 rfl|exact li0 rfl|refine lg0 ?_|refine lt0 ?_|fail)
 ·(refine⟨by kernel_rfl,?_⟩;(conv=>whnf))
  refine ix1 ?_;conv=>whnf
  refine uc hT2 3 ?_;conv=>whnf
  refine⟨59,IB,[1700002],zf2 (bP ins st2.1 outs st2.2),.int .i64 i1,rfl,by kernel_rfl,hpb,?_⟩;conv=>whnf
  refine⟨2,by omega,by decide,?_⟩
  ((conv=>whnf);refine And.intro ?_ ?_;repeat' first|refine lc ?_ ?_|exact la0|exact lr rfl|exact ln0|refine lh1 ?_ ?_|exact lh0|exact bf0|exact bd0|refine bc0 ?_|exact bm0 rfl|exact bb0 rfl|exact bg0 rfl|exact li0 rfl|refine lg0 ?_|refine lt0 ?_|fail)
 ·(refine⟨by kernel_rfl,?_⟩;(conv=>whnf))
  refine uc hT2 2 ?_;conv=>whnf
  refine⟨65,IB,[1700002],zf2 (bP ins ops outs at'),.int .i64 j,rfl,by kernel_rfl,hp,?_⟩;conv=>whnf
  (refine And.intro ?_ ?_;repeat' first|refine lc ?_ ?_|exact la0|exact lr rfl|exact ln0|refine lh1 ?_ ?_|exact lh0|exact bf0|exact bd0|refine bc0 ?_|exact bm0 rfl|exact bb0 rfl|exact bg0 rfl|exact li0 rfl|refine lg0 ?_|refine lt0 ?_|fail)
include h0 h1 hn in
theorem f94 {e:Ex} (h:VT e):zxp ins ns outs e:=by
 induction h with
 |num r _=>exact zzy ins ns outs h0 h1 r
 |var s _=>exact zzw ins ns outs hn s
 |un k a hk _ ih=>exact zsv ins ns outs h0 h1 k 0 a (K1_ne hk).2 ih
 |pow n a _ _ _ ih=>exact zsv ins ns outs h0 h1 8 n a (by omega) ih
 |bin k a b hk _ _ ih1 ih2=>exact zzx ins ns outs h0 h1 k a b (K2_ne hk).2 ih1 ih2
end
end Go.Proofs.YtlocddfailmnpaaGreatDoor

namespace Go.Proofs.YtlocddfailmnpaaGreatDoor
open Go Go.Sx
set_option maxRecDepth 100000
set_option maxHeartbeats 8000000
theorem tc138 (w:World):Calls Tryz.prog 110 #[.slice none 0 0] w fun e w'=>e= .returned (.slice none 0 0)∧w'=w:=by
 go_enter Tryz.func110,Tryz.ntmps110
 go_wp2
 rename_i Kx hx
 refine hx _ _ ?_
 simp only[Option.isNone]
 go_wp2
 go_ret
 exact⟨rfl,rfl⟩
theorem tc139 (w:World):Calls Tryz.prog 111 #[.slice none 0 0] w fun e w'=>e= .returned (.slice none 0 0)∧w'=w:=by
 go_enter Tryz.func111,Tryz.ntmps111
 go_wp2
 rename_i Kx hx
 refine hx _ _ ?_
 simp only[Option.isNone]
 go_wp2
 go_ret
 exact⟨rfl,rfl⟩
theorem f138:Fn 110 [] [.nilsl] .nilsl []:=by
 refine zd3.pure ⟨_,Tryz.func110,rfl,rfl⟩ fun ρ vs w hv=>?_
 match vs,hv with
 | [a],⟨ha,_⟩=>
   obtain rfl:a= .slice none 0 0:=ha
   refine(tc138 w).mono ?_
   rintro e w' ⟨rfl,rfl⟩
   exact⟨⟨_,rfl,rfl⟩,rfl⟩
theorem f139:Fn 111 [] [.nilsl] .nilsl []:=by
 refine zd3.pure ⟨_,Tryz.func111,rfl,rfl⟩ fun ρ vs w hv=>?_
 match vs,hv with
 | [a],⟨ha,_⟩=>
   obtain rfl:a= .slice none 0 0:=ha
   refine(tc139 w).mono ?_
   rintro e w' ⟨rfl,rfl⟩
   exact⟨⟨_,rfl,rfl⟩,rfl⟩
theorem f140:Fn 112 [] [.nilsl] (.fn 159 [.ptr 2000000 0]) [(2000000,.cells [.nilsl])]:=by
 refine fnT hT2 hmx Tryz.func112 rfl rfl (ex:= [1]) ?_;conv=>whnf
 exact⟨lr rfl,lh1 (bc0 (lc (lr rfl) ln0)) lh0⟩
theorem f160 (l:Nat) (J:GJ):Fn 159 [(qr,.gst J),(1000001,.cells [.nilsl])] [.cb l,.ptr 1000001 0] (.tup []) [(qr,.gst J),(1000001,.cells [.nilsl])]:=by
 refine fnT hT2 hmx Tryz.func159 rfl rfl (ex:= []) ?_;conv=>whnf
 refine⟨Unit,fun _=>True,fun _=> [(3,.int .i64 (-1))],fun _=> [],fun _=>0,(),trivial,?_,fun _ _=>?_⟩
 ·((conv=>whnf);refine And.intro ?_ ?_;repeat' first|refine lc ?_ ?_|exact la0|exact lr rfl|exact ln0|refine lh1 ?_ ?_|exact lh0|exact bf0|exact bd0|refine bc0 ?_|exact bm0 rfl|exact bg0 rfl|exact li0 rfl|refine lg0 ?_|refine lt0 ?_|fail)
 (refine⟨by kernel_rfl,?_⟩;(conv=>whnf))
 exact⟨lr rfl,lh1 (bg0 rfl) (lh1 (bc0 (lc (lr rfl) ln0)) lh0)⟩
theorem f93 (n:Int):Fn 58 [] [.agg [.int .i64 n,.nilsl,.nilsl]] (.ptr 2000000 0) (bH 2000000 2000001 2000002 2000003 n [] [] []):=by
 refine fnT hT2 hmx Tryz.func58 rfl rfl (ex:= [17,100000,100001,15]) ?_;conv=>whnf
 refine⟨[],.nilsl,f138,?_⟩;conv=>whnf
 refine⟨[],.nilsl,f139,?_⟩;conv=>whnf
 (refine⟨by kernel_rfl,by kernel_rfl,?_⟩;(conv=>whnf))
 refine⟨[],[.cells [.nilsl]],_,f140,?_⟩;conv=>whnf
 refine⟨[],Unit,Empty,fun _=> [],fun _=>true,fun _=>Code.skip,fun y=>(nomatch y),fun x _=>x,(),(),.tup [],[.cells [.nilsl]],rfl,rfl,by kernel_rfl,by kernel_rfl,fun _=>⟨rfl,rfl⟩,fun y=>(nomatch y),fun l J _=>(f160 l (J ())).sw [(23,1000001)] rfl,fun _ y=>(nomatch y),?_⟩
 conv=>whnf
 refine⟨lr rfl,lh1 (bc0 (lc (lr rfl) (lc ?_ (lc ?_ (lc (lr rfl) ln0))))) (lh1 ⟨rfl,rfl⟩ (lh1 ⟨rfl,rfl⟩ (lh1 (bm0 rfl) lh0)))⟩
 ·exact trivial
 ·exact trivial
noncomputable def qd9:Code:=Tryz.f60.body.getD .skip
theorem f95 (ins:Int) (ops:List TOp) (outs:List Int) (at':List (TOp×Int)):FB 60 [] (bH 1000001 1000002 1000003 1000004 ins ops outs at') [.ptr 1000001 0] (.bool (decide (200<ops.length)||decide (200<outs.length))) (bH 1000001 1000002 1000003 1000004 ins ops outs at'):=by
 refine uf (code:=qd9) hT2 Tryz.func60 rfl rfl [1000002,1000003] ?_;conv=>whnf
 refine xq hT2 hmx [] ?_;conv=>whnf
 refine brI (fun h1=>?_) (fun h1=>?_)
 ·conv=>whnf
  have h1:200<ops.length:=by simp only[decide_eq_true_eq]at h1;omega
  (refine And.intro ?_ ?_;repeat' first|refine lc ?_ ?_|exact la0|exact lr rfl|exact ln0|refine lh1 ?_ ?_|exact lh0|exact bf0|exact bd0|refine bc0 ?_|exact bm0 rfl|exact bb0 rfl|exact bg0 rfl|exact li0 rfl|refine lg0 ?_|refine lt0 ?_|fail)
  exact ab0 (by simp[h1])
 ·conv=>whnf
  have h1: ¬200<ops.length:=by simp only[decide_eq_false_iff_not]at h1;omega
  (refine And.intro ?_ ?_;repeat' first|refine lc ?_ ?_|exact la0|exact lr rfl|exact ln0|refine lh1 ?_ ?_|exact lh0|exact bf0|exact bd0|refine bc0 ?_|exact bm0 rfl|exact bb0 rfl|exact bg0 rfl|exact li0 rfl|refine lg0 ?_|refine lt0 ?_|fail)
  refine ab0 ?_
  rw[decide_eq_false h1,Bool.false_or]
  by_cases h2:200<outs.length
  ·rw[decide_eq_true h2];exact decide_eq_true (by omega)
  ·rw[decide_eq_false h2];exact decide_eq_false (by omega)
def twS:List zg→Nat→List zg→Bool
 |ns,i,n::l=>(ns.take i).any (eqS n)||twS ns (i+1) l
 | _,_,[]=>false
def twB (ns:List zg):Bool:=twS ns 0 ns
theorem f90 (ns:List zg) (hn:ns.length<9223372036854775808):Fn 54 [] [.sl .str ns] (.bool (twB ns)) []:=by
 obtain⟨A,hA⟩: ∃A,twB ns=A:=⟨_,rfl⟩
 rw[hA]
 refine fnT hT2 hmx Tryz.func54 rfl rfl (ex:= []) ?_;conv=>whnf
 refine⟨Nat,fun i=>i≤ns.length∧twS ns i (ns.drop i)=A,fun i=> [(7,.int .i64 i)],fun _=> [],fun i=>ns.length-i,0,⟨by simp,by simpa[twB]using hA⟩,?_,fun i hi=>?_⟩
 ·((conv=>whnf);refine And.intro ?_ ?_;repeat' first|refine lc ?_ ?_|exact la0|exact lr rfl|exact ln0|refine lh1 ?_ ?_|exact lh0|exact bf0|exact bd0|refine bc0 ?_|exact bm0 rfl|exact bg0 rfl|exact li0 rfl|refine lg0 ?_|refine lt0 ?_|fail)
 (refine⟨by kernel_rfl,?_⟩;(conv=>whnf))
 obtain⟨hi1,hi2⟩:=hi
 refine brI (fun h1=>?_) (fun h1=>?_)
 ·conv=>whnf
  have hi:i<ns.length:=by simp only[decide_eq_true_eq]at h1;omega
  refine⟨⟨by omega,by omega⟩,fun n hx=>?_⟩
  have hx:ns[i]? =some n:=by simpa using hx
  rw[qn hx]at hi2
  simp only[twS]at hi2
  conv=>whnf
  refine⟨⟨by omega,by omega,by omega⟩,?_⟩;conv=>whnf
  refine cbI [] ((ns.take i).any (eqS n)) (f55 (ns.take i) n (by rw[List.length_take];omega)) (fun h2=>?_) (fun h2=>?_)
  ·conv=>whnf
   rw[h2]at hi2
   exact⟨ab0 (by simpa using hi2),lh0⟩
  ·conv=>whnf
   rw[h2]at hi2
   refine⟨i+1,⟨by omega,by simpa using hi2⟩,by show ns.length-(i+1)<ns.length-i;omega,?_⟩
   ((conv=>whnf);refine And.intro ?_ ?_;repeat' first|refine lc ?_ ?_|exact la0|exact lr rfl|exact ln0|refine lh1 ?_ ?_|exact lh0|exact bf0|exact bd0|refine bc0 ?_|exact bm0 rfl|exact bg0 rfl|exact li0 rfl|refine lg0 ?_|refine lt0 ?_|fail)
   exact ai0 (by rw[wI (by omega)];omega)
 ·conv=>whnf
  have hi: ¬i<ns.length:=by simp only[decide_eq_false_iff_not]at h1;omega
  rw[List.drop_of_length_le (by omega)]at hi2
  exact⟨ab0 (by simpa[twS]using hi2),lh0⟩
end Go.Proofs.YtlocddfailmnpaaGreatDoor

namespace Go.Proofs.YtlocddfailmnpaaGreatDoor
open Go Go.Sx
set_option maxRecDepth 100000
set_option maxHeartbeats 8000000
def zok (e:Ex):Bool:= !okT e
theorem f87 (e:Ex) (he:Sm e):Fn 50 [] [.agg (exC e)] (.bool (zok e)) []:=by
 refine fnT hT2 hmx Tryz.func50 rfl rfl (ex:= []) ?_;conv=>whnf
 refine cbI [] (okT e) (f17 e he) (fun h=>?_) (fun h=>?_)
 ·conv=>whnf
  exact⟨ab0 (by simp[zok,h]),lh0⟩
 ·conv=>whnf
  exact⟨ab0 (by simp[zok,h]),lh0⟩
theorem f114b (l:List Ex) (hl: ∀x∈l,Sm x) (hlen:l.length<9223372036854775808):Fn 102 [] [.sl .ex l,.fn 50 []] (.int .i64 (ixP zok l 0)) []:=by
 refine fnT hT2 hmx Tryz.func102 rfl rfl (ex:= []) ?_;conv=>whnf
 refine⟨Nat,fun i=>i≤l.length∧ixP zok (l.drop i) i=ixP zok l 0,fun i=> [(8,.int .i64 i)],fun _=> [],fun i=>l.length-i,0,⟨by simp,rfl⟩,?_,fun i hi=>?_⟩
 ·((conv=>whnf);refine And.intro ?_ ?_;repeat' first|refine lc ?_ ?_|exact la0|exact lr rfl|exact ln0|refine lh1 ?_ ?_|exact lh0|exact bf0|exact bd0|refine bc0 ?_|exact bm0 rfl|exact bg0 rfl|exact li0 rfl|refine lg0 ?_|refine lt0 ?_|fail)
 (refine⟨by kernel_rfl,?_⟩;(conv=>whnf))
 obtain⟨hi1,hi2⟩:=hi
 refine brI (fun h1=>?_) (fun h1=>?_)
 ·conv=>whnf
  have hi:i<l.length:=by simp only[decide_eq_true_eq]at h1;omega
  refine⟨⟨by omega,by omega⟩,fun x hx=>?_⟩
  have hx:l[i]? =some x:=by simpa using hx
  have hm:=List.mem_of_getElem? hx
  rw[qn hx]at hi2
  simp only[ixP]at hi2
  conv=>whnf
  refine cbI [] (zok x) (f87 x (hl x hm)) (fun h2=>?_) (fun h2=>?_)
  ·conv=>whnf
   rw[if_pos h2]at hi2
   exact⟨ai0 hi2,lh0⟩
  ·conv=>whnf
   rw[if_neg (by rw[h2];simp)]at hi2
   refine⟨i+1,⟨by omega,hi2⟩,by show l.length-(i+1)<l.length-i;omega,?_⟩
   ((conv=>whnf);refine And.intro ?_ ?_;repeat' first|refine lc ?_ ?_|exact la0|exact lr rfl|exact ln0|refine lh1 ?_ ?_|exact lh0|exact bf0|exact bd0|refine bc0 ?_|exact bm0 rfl|exact bg0 rfl|exact li0 rfl|refine lg0 ?_|refine lt0 ?_|fail)
   exact ai0 (by rw[wI (by omega)];omega)
 ·conv=>whnf
  have hi: ¬i<l.length:=by simp only[decide_eq_false_iff_not]at h1;omega
  rw[List.drop_of_length_le (by omega)]at hi2
  exact⟨ai0 hi2,lh0⟩
theorem f60b (l:List Ex) (hl: ∀x∈l,Sm x) (hlen:l.length<9223372036854775808):Fn 49 [] [.sl .ex l,.fn 50 []] (.bool (l.any zok)) []:=by
 refine fnT hT2 hmx Tryz.func49 rfl rfl (ex:= []) ?_;conv=>whnf
 refine gZn (f114b l hl hlen) ?_;conv=>whnf
 exact⟨ab0 (by rw[Bool.eq_iff_iff,decide_eq_true_eq];exact zaq zok l 0),lh0⟩
def zp2 (n:zg):Bool:= !zd6 n
theorem f88 (n:zg) (hn:n.length<9223372036854775808):Fn 52 [] [.str n] (.bool (zp2 n)) []:=by
 refine fnT hT2 hmx Tryz.func52 rfl rfl (ex:= []) ?_;conv=>whnf
 refine cbI [] (zd6 n) (f89 n hn) (fun h=>?_) (fun h=>?_)
 ·conv=>whnf
  exact⟨ab0 (by simp[zp2,h]),lh0⟩
 ·conv=>whnf
  exact⟨ab0 (by simp[zp2,h]),lh0⟩
theorem f73b (l:List zg) (hl: ∀x∈l,x.length<9223372036854775808) (hlen:l.length<9223372036854775808):Fn 103 [] [.sl .str l,.fn 52 []] (.int .i64 (ixP zp2 l 0)) []:=by
 refine fnT hT2 hmx Tryz.func103 rfl rfl (ex:= []) ?_;conv=>whnf
 refine⟨Nat,fun i=>i≤l.length∧ixP zp2 (l.drop i) i=ixP zp2 l 0,fun i=> [(8,.int .i64 i)],fun _=> [],fun i=>l.length-i,0,⟨by simp,rfl⟩,?_,fun i hi=>?_⟩
 ·((conv=>whnf);refine And.intro ?_ ?_;repeat' first|refine lc ?_ ?_|exact la0|exact lr rfl|exact ln0|refine lh1 ?_ ?_|exact lh0|exact bf0|exact bd0|refine bc0 ?_|exact bm0 rfl|exact bg0 rfl|exact li0 rfl|refine lg0 ?_|refine lt0 ?_|fail)
 (refine⟨by kernel_rfl,?_⟩;(conv=>whnf))
 obtain⟨hi1,hi2⟩:=hi
 refine brI (fun h1=>?_) (fun h1=>?_)
 ·conv=>whnf
  have hi:i<l.length:=by simp only[decide_eq_true_eq]at h1;omega
  refine⟨⟨by omega,by omega⟩,fun x hx=>?_⟩
  have hx:l[i]? =some x:=by simpa using hx
  have hm:=List.mem_of_getElem? hx
  rw[qn hx]at hi2
  simp only[ixP]at hi2
  conv=>whnf
  refine cbI [] (zp2 x) (f88 x (hl x hm)) (fun h2=>?_) (fun h2=>?_)
  ·conv=>whnf
   rw[if_pos h2]at hi2
   exact⟨ai0 hi2,lh0⟩
  ·conv=>whnf
   rw[if_neg (by rw[h2];simp)]at hi2
   refine⟨i+1,⟨by omega,hi2⟩,by show l.length-(i+1)<l.length-i;omega,?_⟩
   ((conv=>whnf);refine And.intro ?_ ?_;repeat' first|refine lc ?_ ?_|exact la0|exact lr rfl|exact ln0|refine lh1 ?_ ?_|exact lh0|exact bf0|exact bd0|refine bc0 ?_|exact bm0 rfl|exact bg0 rfl|exact li0 rfl|refine lg0 ?_|refine lt0 ?_|fail)
   exact ai0 (by rw[wI (by omega)];omega)
 ·conv=>whnf
  have hi: ¬i<l.length:=by simp only[decide_eq_false_iff_not]at h1;omega
  rw[List.drop_of_length_le (by omega)]at hi2
  exact⟨ai0 hi2,lh0⟩
theorem f32b (l:List zg) (hl: ∀x∈l,x.length<9223372036854775808) (hlen:l.length<9223372036854775808):Fn 51 [] [.sl .str l,.fn 52 []] (.bool (l.any zp2)) []:=by
 refine fnT hT2 hmx Tryz.func51 rfl rfl (ex:= []) ?_;conv=>whnf
 refine gZn (f73b l hl hlen) ?_;conv=>whnf
 exact⟨ab0 (by rw[Bool.eq_iff_iff,decide_eq_true_eq];exact zaq zp2 l 0),lh0⟩
abbrev HnT (ns:List zg):Hp:= [(1000003,.cells [.sl .str ns])]
theorem zsg (ns:List zg) {h h':Hp}:leH h h' (HnT ns) (HnT ns):=lh1 (bc0 (lc (lr rfl) ln0)) lh0
def zpy (ns:List zg) (n:zg):Bool:= !ns.any (eqS n)
theorem f92 (ns:List zg) (n:zg) (hns:ns.length<9223372036854775808):Fn 56 (HnT ns) [.str n,.ptr 1000003 0] (.bool (zpy ns n)) (HnT ns):=by
 refine fnT hT2 hmx Tryz.func56 rfl rfl (ex:= []) ?_;conv=>whnf
 refine cbI [] (ns.any (eqS n)) (f55 ns n hns) (fun h=>?_) (fun h=>?_)
 ·conv=>whnf
  exact⟨ab0 (by simp only[zpy,h]),zsg ns⟩
 ·conv=>whnf
  exact⟨ab0 (by simp only[zpy,h]),zsg ns⟩
theorem f73c (ns:List zg) (hns:ns.length<9223372036854775808) (l:List zg) (hlen:l.length<9223372036854775808):Fn 103 (HnT ns) [.sl .str l,.fn 56 [.ptr 1000003 0]] (.int .i64 (ixP (zpy ns) l 0)) (HnT ns):=by
 refine fnT hT2 hmx Tryz.func103 rfl rfl (ex:= []) ?_;conv=>whnf
 refine⟨Nat,fun i=>i≤l.length∧ixP (zpy ns) (l.drop i) i=ixP (zpy ns) l 0,fun i=> [(8,.int .i64 i)],fun _=> [],fun i=>l.length-i,0,⟨by simp,rfl⟩,?_,fun i hi=>?_⟩
 ·((conv=>whnf);refine And.intro ?_ ?_;repeat' first|refine lc ?_ ?_|exact la0|exact lr rfl|exact ln0|refine lh1 ?_ ?_|exact lh0|exact bf0|exact bd0|refine bc0 ?_|exact bm0 rfl|exact bg0 rfl|exact li0 rfl|refine lg0 ?_|refine lt0 ?_|fail)
 (refine⟨by kernel_rfl,?_⟩;(conv=>whnf))
 obtain⟨hi1,hi2⟩:=hi
 refine brI (fun h1=>?_) (fun h1=>?_)
 ·conv=>whnf
  have hi:i<l.length:=by simp only[decide_eq_true_eq]at h1;omega
  refine⟨⟨by omega,by omega⟩,fun x hx=>?_⟩
  have hx:l[i]? =some x:=by simpa using hx
  have hm:=List.mem_of_getElem? hx
  rw[qn hx]at hi2
  simp only[ixP]at hi2
  conv=>whnf
  refine cbI [.cells [.sl .str ns]] ((zpy ns) x) (f92 ns x hns) (fun h2=>?_) (fun h2=>?_)
  ·conv=>whnf
   rw[if_pos h2]at hi2
   exact⟨ai0 hi2,zsg ns⟩
  ·conv=>whnf
   rw[if_neg (by rw[h2];simp)]at hi2
   refine⟨i+1,⟨by omega,hi2⟩,by show l.length-(i+1)<l.length-i;omega,?_⟩
   ((conv=>whnf);refine And.intro ?_ ?_;repeat' first|refine lc ?_ ?_|exact la0|exact lr rfl|exact ln0|refine lh1 ?_ ?_|exact lh0|exact bf0|exact bd0|refine bc0 ?_|exact bm0 rfl|exact bg0 rfl|exact li0 rfl|refine lg0 ?_|refine lt0 ?_|fail)
   exact ai0 (by rw[wI (by omega)];omega)
 ·conv=>whnf
  have hi: ¬i<l.length:=by simp only[decide_eq_false_iff_not]at h1;omega
  rw[List.drop_of_length_le (by omega)]at hi2
  exact⟨ai0 hi2,zsg ns⟩
theorem f32c (ns:List zg) (hns:ns.length<9223372036854775808) (l:List zg) (hlen:l.length<9223372036854775808):Fn 51 (HnT ns) [.sl .str l,.fn 56 [.ptr 1000003 0]] (.bool (l.any (zpy ns))) (HnT ns):=by
 refine fnT hT2 hmx Tryz.func51 rfl rfl (ex:= []) ?_;conv=>whnf
 refine⟨[.cells [.sl .str ns]],_,f73c ns hns l hlen,?_⟩;conv=>whnf
 exact⟨ab0 (by rw[Bool.eq_iff_iff,decide_eq_true_eq];exact zaq (zpy ns) l 0),zsg ns⟩
end Go.Proofs.YtlocddfailmnpaaGreatDoor

namespace Go.Proofs.YtlocddfailmnpaaGreatDoor
open Go Go.Sx
set_option maxRecDepth 100000
set_option maxHeartbeats 8000000
def jl (l:List Ex) (ns:List zg) (x:Ex) (i k n:Int) (ops ops1:List TOp) (outs:List Int) (at1 at2:List (TOp×Int)) (b0 b1 b2 b3 b4 b5 b6 b7 b8 b9 b10 b11 b12 b13 b14 b15:Bool):St:=
 ⟨[.sl .ex l,.any,.any,.ptr 3 0,.ptr 4 0,.any,.any,.any,.ptr 48 0,.any,.ptr 10 0,.any,.any,.any,.any,.any,.any,.any,.any,.any,.any,.any,.any,.any,.any,.any,.any,.any,.any,.any,.any,.any,.any,.any,.any,.any,.any,.any,.any,.any,.any,.any,.any,.any,.any,.any,.any,.any,.any,.sl .ex l,.int .i64 l.length,.int .i64 i,.any,.any,.any,(bif b0 then .ptr 48 0 else .any),(bif b1 then .ptr 48 0 else .any),(bif b2 then .ptr 48 0 else .any),(bif b3 then .ptr 48 0 else .any),(bif b4 then .ptr 48 2 else .any),(bif b5 then .own 200048 else .any),(bif b6 then .ptr 48 0 else .any),(bif b7 then .agg (exC x)else .any),(bif b8 then .sl .str ns else .any),(bif b9 then .int .i64 k else .any),(bif b10 then .sl .int [k]else .any),(bif b11 then .own 66 else .any),(bif b12 then .ptr 48 0 else .any),(bif b13 then .ptr 48 0 else .any),(bif b14 then .ptr 48 2 else .any),.any,.any,.any,.any,.any,.any,.any,.any],
  [(3,.cells [.sl .str ns]),(4,.cells [.int .i64 0,.nilsl,.nilsl]),(7,.free),(48,.cells [.int .i64 n,.own 100048,bif b15 then .own 66 else .own 200048,.mp 300048]),(100048,.buf 39 .op (bif b9 then ops1 else ops)),(200048,bif b11 then .dead else .buf 3 .int outs),
   (300048,.map .op .int (bif b9 then at2 else at1)),(10,.cells (exC x)),(66,bif b11 then .buf 3 .int (outs++ [k])else .free),(100066,.free),(1500066,.free)]⟩
def S17 (l:List Ex) (ns:List zg) (x:Ex) (i k n:Int) (ops ops1:List TOp) (outs:List Int) (at1 at2:List (TOp×Int)) (L:Nat→Bool):St:=jl l ns x i k n ops ops1 outs at1 at2 (L 0) (L 1) (L 2) (L 3) (L 4) (L 5) (L 6) (L 7) (L 8) (L 9) (L 10) (L 11) (L 12) (L 13) (L 14) (L 15)
theorem zzd {b:Bool} {l:List Nat} {i:Nat} (h:i∈(bif b then l else [])):i∈l:=by
 cases b
 ·cases h
 ·exact h
theorem zpj (b:Bool) (x:AV):(bif b then x else .any).ids =bif b then x.ids else []:=by cases b<;>rfl
def reg17:Code→Code
 | .seq _ (.seq _ (.seq _ (.seq _ (.seq (.seq _ (.block _ (.loop (.seq _ (.seq _ (.seq (.block _ (.seq _ r)) _)))))) _))))=>r
 |c=>c
def opsOf:Code→Array Oper
 | .region _ ops _=>ops
 | _=> #[]
noncomputable def wo:Array Oper:=opsOf (reg17 (Tryz.f15.body.getD .skip))
section
variable (l:List Ex) (ns:List zg) (x:Ex) (i k n:Int) (ops ops1:List TOp) (outs:List Int) (at1 at2:List (TOp×Int)) (L:Nat→Bool)
theorem qcn: ∀o,wo[0]? =some o→OpT Tryz.prog o (jl l ns x i k n ops ops1 outs at1 at2 false (L 1) (L 2) (L 3) (L 4) (L 5) (L 6) (L 7) (L 8) (L 9) (L 10) (L 11) (L 12) (L 13) (L 14) (L 15)) (jl l ns x i k n ops ops1 outs at1 at2 true (L 1) (L 2) (L 3) (L 4) (L 5) (L 6) (L 7) (L 8) (L 9) (L 10) (L 11) (L 12) (L 13) (L 14) (L 15)):=by
 intro o ho
 have ho:some _=some o:=ho
 cases ho
 refine yc hT2 rfl ?_;conv=>whnf
 exact rfl
theorem qcm: ∀o,wo[1]? =some o→OpT Tryz.prog o (jl l ns x i k n ops ops1 outs at1 at2 (L 0) false (L 2) (L 3) (L 4) (L 5) (L 6) (L 7) (L 8) (L 9) (L 10) (L 11) (L 12) (L 13) (L 14) (L 15)) (jl l ns x i k n ops ops1 outs at1 at2 (L 0) true (L 2) (L 3) (L 4) (L 5) (L 6) (L 7) (L 8) (L 9) (L 10) (L 11) (L 12) (L 13) (L 14) (L 15)):=by
 intro o ho
 have ho:some _=some o:=ho
 cases ho
 refine yc hT2 rfl ?_;conv=>whnf
 exact rfl
theorem qcl: ∀o,wo[2]? =some o→OpT Tryz.prog o (jl l ns x i k n ops ops1 outs at1 at2 (L 0) true false (L 3) (L 4) (L 5) (L 6) (L 7) (L 8) (L 9) (L 10) (L 11) (L 12) (L 13) (L 14) (L 15)) (jl l ns x i k n ops ops1 outs at1 at2 (L 0) true true (L 3) (L 4) (L 5) (L 6) (L 7) (L 8) (L 9) (L 10) (L 11) (L 12) (L 13) (L 14) (L 15)):=by
 intro o ho
 have ho:some _=some o:=ho
 cases ho
 refine yc hT2 rfl ?_;conv=>whnf
 exact rfl
theorem qck: ∀o,wo[3]? =some o→OpT Tryz.prog o (jl l ns x i k n ops ops1 outs at1 at2 (L 0) (L 1) true false (L 4) (L 5) (L 6) (L 7) (L 8) (L 9) (L 10) (L 11) (L 12) (L 13) (L 14) (L 15)) (jl l ns x i k n ops ops1 outs at1 at2 (L 0) (L 1) true true (L 4) (L 5) (L 6) (L 7) (L 8) (L 9) (L 10) (L 11) (L 12) (L 13) (L 14) (L 15)):=by
 intro o ho
 have ho:some _=some o:=ho
 cases ho
 refine yc hT2 rfl ?_;conv=>whnf
 exact rfl
theorem qcj: ∀o,wo[4]? =some o→OpT Tryz.prog o (jl l ns x i k n ops ops1 outs at1 at2 (L 0) (L 1) (L 2) true false (L 5) (L 6) (L 7) (L 8) (L 9) (L 10) (L 11) (L 12) (L 13) (L 14) (L 15)) (jl l ns x i k n ops ops1 outs at1 at2 (L 0) (L 1) (L 2) true true (L 5) (L 6) (L 7) (L 8) (L 9) (L 10) (L 11) (L 12) (L 13) (L 14) (L 15)):=by
 intro o ho
 have ho:some _=some o:=ho
 cases ho
 refine yc hT2 rfl ?_;conv=>whnf
 exact rfl
theorem qci: ∀o,wo[5]? =some o→OpT Tryz.prog o (jl l ns x i k n ops ops1 outs at1 at2 (L 0) (L 1) (L 2) (L 3) true false (L 6) (L 7) (L 8) (L 9) (L 10) (L 11) (L 12) (L 13) (L 14) false) (jl l ns x i k n ops ops1 outs at1 at2 (L 0) (L 1) (L 2) (L 3) true true (L 6) (L 7) (L 8) (L 9) (L 10) (L 11) (L 12) (L 13) (L 14) false):=by
 intro o ho
 have ho:some _=some o:=ho
 cases ho
 refine yc hT2 rfl ?_;conv=>whnf
 exact rfl
theorem qch: ∀o,wo[6]? =some o→OpT Tryz.prog o (jl l ns x i k n ops ops1 outs at1 at2 (L 0) (L 1) (L 2) (L 3) (L 4) (L 5) false (L 7) (L 8) (L 9) (L 10) (L 11) (L 12) (L 13) (L 14) (L 15)) (jl l ns x i k n ops ops1 outs at1 at2 (L 0) (L 1) (L 2) (L 3) (L 4) (L 5) true (L 7) (L 8) (L 9) (L 10) (L 11) (L 12) (L 13) (L 14) (L 15)):=by
 intro o ho
 have ho:some _=some o:=ho
 cases ho
 refine yc hT2 rfl ?_;conv=>whnf
 exact rfl
theorem qcg: ∀o,wo[7]? =some o→OpT Tryz.prog o (jl l ns x i k n ops ops1 outs at1 at2 (L 0) (L 1) (L 2) (L 3) (L 4) (L 5) (L 6) false (L 8) (L 9) (L 10) (L 11) (L 12) (L 13) (L 14) (L 15)) (jl l ns x i k n ops ops1 outs at1 at2 (L 0) (L 1) (L 2) (L 3) (L 4) (L 5) (L 6) true (L 8) (L 9) (L 10) (L 11) (L 12) (L 13) (L 14) (L 15)):=by
 intro o ho
 have ho:some _=some o:=ho
 cases ho
 refine yc hT2 rfl ?_;conv=>whnf
 exact rfl
theorem qcf: ∀o,wo[8]? =some o→OpT Tryz.prog o (jl l ns x i k n ops ops1 outs at1 at2 (L 0) (L 1) (L 2) (L 3) (L 4) (L 5) (L 6) (L 7) false (L 9) (L 10) (L 11) (L 12) (L 13) (L 14) (L 15)) (jl l ns x i k n ops ops1 outs at1 at2 (L 0) (L 1) (L 2) (L 3) (L 4) (L 5) (L 6) (L 7) true (L 9) (L 10) (L 11) (L 12) (L 13) (L 14) (L 15)):=by
 intro o ho
 have ho:some _=some o:=ho
 cases ho
 refine yc hT2 rfl ?_;conv=>whnf
 exact rfl
theorem qce (hfn:FB 59 [100048] (bH 48 100048 200048 300048 n ops outs at1) [.ptr 48 0,.agg (exC x),.sl .str ns] (.int .i64 k) (bH 48 100048 200048 300048 n ops1 outs at2)): ∀o,wo[9]? =some o→OpT Tryz.prog o (jl l ns x i k n ops ops1 outs at1 at2 (L 0) (L 1) (L 2) (L 3) (L 4) (L 5) true true true false (L 10) false (L 12) (L 13) (L 14) false) (jl l ns x i k n ops ops1 outs at1 at2 (L 0) (L 1) (L 2) (L 3) (L 4) (L 5) true true true true (L 10) false (L 12) (L 13) (L 14) false):=by
 intro o ho
 have ho:some _=some o:=ho
 cases ho
 refine zrw rfl rfl rfl (g:=59) (I:= [48,100048,200048,300048]) (B:= [100048]) (bs':=zf2 (bH 48 100048 200048 300048 n ops1 outs at2)) (r:= .int .i64 k) rfl (by kernel_rfl) ?_ hfn rfl
 intro i hi
 simp only[List.mem_singleton]at hi
 subst hi
 simp only[jl,qg,AV.ids,zpj,exC,List.mem_append,List.append_nil,List.nil_append,cond_true,cond_false,not_or]
 repeat' apply And.intro
 all_goals first|(intro h;have:=zzd h;simp at this;done)|(intro h;simp at h;done)
theorem zy5: ∀o,wo[10]? =some o→OpT Tryz.prog o (jl l ns x i k n ops ops1 outs at1 at2 (L 0) (L 1) (L 2) (L 3) (L 4) (L 5) (L 6) (L 7) (L 8) true false (L 11) (L 12) (L 13) (L 14) (L 15)) (jl l ns x i k n ops ops1 outs at1 at2 (L 0) (L 1) (L 2) (L 3) (L 4) (L 5) (L 6) (L 7) (L 8) true true (L 11) (L 12) (L 13) (L 14) (L 15)):=by
 intro o ho
 have ho:some _=some o:=ho
 cases ho
 refine yc hT2 rfl ?_;conv=>whnf
 exact rfl
theorem zy4 (hb:(outs.length+1)*8≤140737488355328): ∀o,wo[11]? =some o→OpT Tryz.prog o (jl l ns x i k n ops ops1 outs at1 at2 (L 0) (L 1) (L 2) (L 3) (L 4) true (L 6) (L 7) (L 8) true true false (L 12) (L 13) (L 14) false) (jl l ns x i k n ops ops1 outs at1 at2 (L 0) (L 1) (L 2) (L 3) (L 4) true (L 6) (L 7) (L 8) true true true (L 12) (L 13) (L 14) false):=by
 intro o ho
 have ho:some _=some o:=ho
 cases ho
 refine yc hT2 rfl ?_;conv=>whnf
 refine⟨hb,?_⟩;conv=>whnf
 exact rfl
theorem zy3: ∀o,wo[12]? =some o→OpT Tryz.prog o (jl l ns x i k n ops ops1 outs at1 at2 true (L 1) (L 2) (L 3) (L 4) (L 5) (L 6) (L 7) (L 8) (L 9) (L 10) (L 11) false (L 13) (L 14) (L 15)) (jl l ns x i k n ops ops1 outs at1 at2 true (L 1) (L 2) (L 3) (L 4) (L 5) (L 6) (L 7) (L 8) (L 9) (L 10) (L 11) true (L 13) (L 14) (L 15)):=by
 intro o ho
 have ho:some _=some o:=ho
 cases ho
 refine yc hT2 rfl ?_;conv=>whnf
 exact rfl
theorem zy2: ∀o,wo[13]? =some o→OpT Tryz.prog o (jl l ns x i k n ops ops1 outs at1 at2 (L 0) (L 1) (L 2) (L 3) (L 4) (L 5) (L 6) (L 7) (L 8) (L 9) (L 10) (L 11) true false (L 14) (L 15)) (jl l ns x i k n ops ops1 outs at1 at2 (L 0) (L 1) (L 2) (L 3) (L 4) (L 5) (L 6) (L 7) (L 8) (L 9) (L 10) (L 11) true true (L 14) (L 15)):=by
 intro o ho
 have ho:some _=some o:=ho
 cases ho
 refine yc hT2 rfl ?_;conv=>whnf
 exact rfl
theorem zy1: ∀o,wo[14]? =some o→OpT Tryz.prog o (jl l ns x i k n ops ops1 outs at1 at2 (L 0) (L 1) (L 2) (L 3) (L 4) (L 5) (L 6) (L 7) (L 8) (L 9) (L 10) (L 11) (L 12) true false (L 15)) (jl l ns x i k n ops ops1 outs at1 at2 (L 0) (L 1) (L 2) (L 3) (L 4) (L 5) (L 6) (L 7) (L 8) (L 9) (L 10) (L 11) (L 12) true true (L 15)):=by
 intro o ho
 have ho:some _=some o:=ho
 cases ho
 refine yc hT2 rfl ?_;conv=>whnf
 exact rfl
theorem zy0: ∀o,wo[15]? =some o→OpT Tryz.prog o (jl l ns x i k n ops ops1 outs at1 at2 (L 0) (L 1) (L 2) (L 3) (L 4) (L 5) (L 6) (L 7) (L 8) (L 9) (L 10) true (L 12) (L 13) true false) (jl l ns x i k n ops ops1 outs at1 at2 (L 0) (L 1) (L 2) (L 3) (L 4) (L 5) (L 6) (L 7) (L 8) (L 9) (L 10) true (L 12) (L 13) true true):=by
 intro o ho
 have ho:some _=some o:=ho
 cases ho
 refine yc hT2 rfl ?_;conv=>whnf
 exact rfl
theorem qbz (hfn:FB 59 [100048] (bH 48 100048 200048 300048 n ops outs at1) [.ptr 48 0,.agg (exC x),.sl .str ns] (.int .i64 k) (bH 48 100048 200048 300048 n ops1 outs at2)) (hb:(outs.length+1)*8≤140737488355328)
 (j:Nat) (o:Oper) (hcl: ∀j oj,wo[j]? =some oj→L j=true→ ∀e∈oj.after,Region.binds .any e=true→L e.on=true) (ho:wo[j]? =some o) (hL:L j=false)
 (hd: ∀e∈o.after,Region.binds .any e=true→L e.on=true):OpT Tryz.prog o (S17 l ns x i k n ops ops1 outs at1 at2 L) (S17 l ns x i k n ops ops1 outs at1 at2 (setF L j)):=by
 have dpq: ∀ {j:Nat},wo[j]? =some o→ ∀q,((wo[j]?.map fun o=>o.after.toList.any fun e=>Region.binds .any e&&Nat.beq e.on q)=some true)→L q=true:=fun {j} ho q hq=>by
  rw[ho]at hq
  simp only[Option.map_some,Option.some.injEq,List.any_eq_true,Bool.and_eq_true]at hq
  obtain⟨e,he,h1,h2⟩:=hq
  have:=hd e (by simpa using he) h1
  rw[(za _ _).1 h2]at this;exact this
 have cl: ∀a q,((wo[a]?.map fun o=>o.after.toList.any fun e=>Region.binds .any e&&Nat.beq e.on q)=some true)→L a=true→L q=true:=fun a q hq ha=>by
  cases ho:wo[a]? with
  |none=>rw[ho]at hq;cases hq
  |some oa=>
   rw[ho]at hq
   simp only[Option.map_some,Option.some.injEq,List.any_eq_true,Bool.and_eq_true]at hq
   obtain⟨e,he,h1,h2⟩:=hq
   have:=hcl a oa ho ha e (by simpa using he) h1
   rw[(za _ _).1 h2]at this;exact this
 have c11_9:L 11=true→L 9=true:=cl 11 9 (by decide+kernel)
 have c15_5:L 15=true→L 5=true:=cl 15 5 (by decide+kernel)
 have c15_9:L 15=true→L 9=true:=cl 15 9 (by decide+kernel)
 have c15_11:L 15=true→L 11=true:=cl 15 11 (by decide+kernel)
 match j,ho,hL with
 |0,ho,hL=>
  have hall:=qcn l ns x i k n ops ops1 outs at1 at2 L o ho
  have ho':some _=some o:=ho
  have dp: ∀q,((wo[0]?.map fun o=>o.after.toList.any fun e=>Region.binds .any e&&Nat.beq e.on q)=some true)→L q=true:=dpq ho
  show OpT Tryz.prog o (jl l ns x i k n ops ops1 outs at1 at2 (L 0) (L 1) (L 2) (L 3) (L 4) (L 5) (L 6) (L 7) (L 8) (L 9) (L 10) (L 11) (L 12) (L 13) (L 14) (L 15)) (jl l ns x i k n ops ops1 outs at1 at2 true (L 1) (L 2) (L 3) (L 4) (L 5) (L 6) (L 7) (L 8) (L 9) (L 10) (L 11) (L 12) (L 13) (L 14) (L 15))
  rw[hL]
  exact hall
 |1,ho,hL=>
  have hall:=qcm l ns x i k n ops ops1 outs at1 at2 L o ho
  have ho':some _=some o:=ho
  have dp: ∀q,((wo[1]?.map fun o=>o.after.toList.any fun e=>Region.binds .any e&&Nat.beq e.on q)=some true)→L q=true:=dpq ho
  show OpT Tryz.prog o (jl l ns x i k n ops ops1 outs at1 at2 (L 0) (L 1) (L 2) (L 3) (L 4) (L 5) (L 6) (L 7) (L 8) (L 9) (L 10) (L 11) (L 12) (L 13) (L 14) (L 15)) (jl l ns x i k n ops ops1 outs at1 at2 (L 0) true (L 2) (L 3) (L 4) (L 5) (L 6) (L 7) (L 8) (L 9) (L 10) (L 11) (L 12) (L 13) (L 14) (L 15))
  rw[hL]
  exact hall
 |2,ho,hL=>
  have hall:=qcl l ns x i k n ops ops1 outs at1 at2 L o ho
  have ho':some _=some o:=ho
  have dp: ∀q,((wo[2]?.map fun o=>o.after.toList.any fun e=>Region.binds .any e&&Nat.beq e.on q)=some true)→L q=true:=dpq ho
  have e1:L 1=true:=dp 1 (by decide+kernel)
  show OpT Tryz.prog o (jl l ns x i k n ops ops1 outs at1 at2 (L 0) (L 1) (L 2) (L 3) (L 4) (L 5) (L 6) (L 7) (L 8) (L 9) (L 10) (L 11) (L 12) (L 13) (L 14) (L 15)) (jl l ns x i k n ops ops1 outs at1 at2 (L 0) (L 1) true (L 3) (L 4) (L 5) (L 6) (L 7) (L 8) (L 9) (L 10) (L 11) (L 12) (L 13) (L 14) (L 15))
  rw[hL,e1]
  exact hall
 |3,ho,hL=>
  have hall:=qck l ns x i k n ops ops1 outs at1 at2 L o ho
  have ho':some _=some o:=ho
  have dp: ∀q,((wo[3]?.map fun o=>o.after.toList.any fun e=>Region.binds .any e&&Nat.beq e.on q)=some true)→L q=true:=dpq ho
  have e2:L 2=true:=dp 2 (by decide+kernel)
  show OpT Tryz.prog o (jl l ns x i k n ops ops1 outs at1 at2 (L 0) (L 1) (L 2) (L 3) (L 4) (L 5) (L 6) (L 7) (L 8) (L 9) (L 10) (L 11) (L 12) (L 13) (L 14) (L 15)) (jl l ns x i k n ops ops1 outs at1 at2 (L 0) (L 1) (L 2) true (L 4) (L 5) (L 6) (L 7) (L 8) (L 9) (L 10) (L 11) (L 12) (L 13) (L 14) (L 15))
  rw[hL,e2]
  exact hall
 |4,ho,hL=>
  have hall:=qcj l ns x i k n ops ops1 outs at1 at2 L o ho
  have ho':some _=some o:=ho
  have dp: ∀q,((wo[4]?.map fun o=>o.after.toList.any fun e=>Region.binds .any e&&Nat.beq e.on q)=some true)→L q=true:=dpq ho
  have e3:L 3=true:=dp 3 (by decide+kernel)
  show OpT Tryz.prog o (jl l ns x i k n ops ops1 outs at1 at2 (L 0) (L 1) (L 2) (L 3) (L 4) (L 5) (L 6) (L 7) (L 8) (L 9) (L 10) (L 11) (L 12) (L 13) (L 14) (L 15)) (jl l ns x i k n ops ops1 outs at1 at2 (L 0) (L 1) (L 2) (L 3) true (L 5) (L 6) (L 7) (L 8) (L 9) (L 10) (L 11) (L 12) (L 13) (L 14) (L 15))
  rw[hL,e3]
  exact hall
 |5,ho,hL=>
  have hall:=qci l ns x i k n ops ops1 outs at1 at2 L o ho
  have ho':some _=some o:=ho
  have dp: ∀q,((wo[5]?.map fun o=>o.after.toList.any fun e=>Region.binds .any e&&Nat.beq e.on q)=some true)→L q=true:=dpq ho
  have e4:L 4=true:=dp 4 (by decide+kernel)
  have e15:L 15=false:=by
   cases h:L 15 with
   |false=>rfl
   |true=>have:=(c15_5 h);rw[hL]at this;cases this
  show OpT Tryz.prog o (jl l ns x i k n ops ops1 outs at1 at2 (L 0) (L 1) (L 2) (L 3) (L 4) (L 5) (L 6) (L 7) (L 8) (L 9) (L 10) (L 11) (L 12) (L 13) (L 14) (L 15)) (jl l ns x i k n ops ops1 outs at1 at2 (L 0) (L 1) (L 2) (L 3) (L 4) true (L 6) (L 7) (L 8) (L 9) (L 10) (L 11) (L 12) (L 13) (L 14) (L 15))
  rw[hL,e4,e15]
  exact hall
 |6,ho,hL=>
  have hall:=qch l ns x i k n ops ops1 outs at1 at2 L o ho
  have ho':some _=some o:=ho
  have dp: ∀q,((wo[6]?.map fun o=>o.after.toList.any fun e=>Region.binds .any e&&Nat.beq e.on q)=some true)→L q=true:=dpq ho
  show OpT Tryz.prog o (jl l ns x i k n ops ops1 outs at1 at2 (L 0) (L 1) (L 2) (L 3) (L 4) (L 5) (L 6) (L 7) (L 8) (L 9) (L 10) (L 11) (L 12) (L 13) (L 14) (L 15)) (jl l ns x i k n ops ops1 outs at1 at2 (L 0) (L 1) (L 2) (L 3) (L 4) (L 5) true (L 7) (L 8) (L 9) (L 10) (L 11) (L 12) (L 13) (L 14) (L 15))
  rw[hL]
  exact hall
 |7,ho,hL=>
  have hall:=qcg l ns x i k n ops ops1 outs at1 at2 L o ho
  have ho':some _=some o:=ho
  have dp: ∀q,((wo[7]?.map fun o=>o.after.toList.any fun e=>Region.binds .any e&&Nat.beq e.on q)=some true)→L q=true:=dpq ho
  show OpT Tryz.prog o (jl l ns x i k n ops ops1 outs at1 at2 (L 0) (L 1) (L 2) (L 3) (L 4) (L 5) (L 6) (L 7) (L 8) (L 9) (L 10) (L 11) (L 12) (L 13) (L 14) (L 15)) (jl l ns x i k n ops ops1 outs at1 at2 (L 0) (L 1) (L 2) (L 3) (L 4) (L 5) (L 6) true (L 8) (L 9) (L 10) (L 11) (L 12) (L 13) (L 14) (L 15))
  rw[hL]
  exact hall
 |8,ho,hL=>
  have hall:=qcf l ns x i k n ops ops1 outs at1 at2 L o ho
  have ho':some _=some o:=ho
  have dp: ∀q,((wo[8]?.map fun o=>o.after.toList.any fun e=>Region.binds .any e&&Nat.beq e.on q)=some true)→L q=true:=dpq ho
  show OpT Tryz.prog o (jl l ns x i k n ops ops1 outs at1 at2 (L 0) (L 1) (L 2) (L 3) (L 4) (L 5) (L 6) (L 7) (L 8) (L 9) (L 10) (L 11) (L 12) (L 13) (L 14) (L 15)) (jl l ns x i k n ops ops1 outs at1 at2 (L 0) (L 1) (L 2) (L 3) (L 4) (L 5) (L 6) (L 7) true (L 9) (L 10) (L 11) (L 12) (L 13) (L 14) (L 15))
  rw[hL]
  exact hall
 |9,ho,hL=>
  have hall:=qce l ns x i k n ops ops1 outs at1 at2 L hfn o ho
  have ho':some _=some o:=ho
  have dp: ∀q,((wo[9]?.map fun o=>o.after.toList.any fun e=>Region.binds .any e&&Nat.beq e.on q)=some true)→L q=true:=dpq ho
  have e6:L 6=true:=dp 6 (by decide+kernel)
  have e7:L 7=true:=dp 7 (by decide+kernel)
  have e8:L 8=true:=dp 8 (by decide+kernel)
  have e11:L 11=false:=by
   cases h:L 11 with
   |false=>rfl
   |true=>have:=(c11_9 h);rw[hL]at this;cases this
  have e15:L 15=false:=by
   cases h:L 15 with
   |false=>rfl
   |true=>have:=(c15_9 h);rw[hL]at this;cases this
  show OpT Tryz.prog o (jl l ns x i k n ops ops1 outs at1 at2 (L 0) (L 1) (L 2) (L 3) (L 4) (L 5) (L 6) (L 7) (L 8) (L 9) (L 10) (L 11) (L 12) (L 13) (L 14) (L 15)) (jl l ns x i k n ops ops1 outs at1 at2 (L 0) (L 1) (L 2) (L 3) (L 4) (L 5) (L 6) (L 7) (L 8) true (L 10) (L 11) (L 12) (L 13) (L 14) (L 15))
  rw[hL,e6,e7,e8,e11,e15]
  exact hall
 |10,ho,hL=>
  have hall:=zy5 l ns x i k n ops ops1 outs at1 at2 L o ho
  have ho':some _=some o:=ho
  have dp: ∀q,((wo[10]?.map fun o=>o.after.toList.any fun e=>Region.binds .any e&&Nat.beq e.on q)=some true)→L q=true:=dpq ho
  have e9:L 9=true:=dp 9 (by decide+kernel)
  show OpT Tryz.prog o (jl l ns x i k n ops ops1 outs at1 at2 (L 0) (L 1) (L 2) (L 3) (L 4) (L 5) (L 6) (L 7) (L 8) (L 9) (L 10) (L 11) (L 12) (L 13) (L 14) (L 15)) (jl l ns x i k n ops ops1 outs at1 at2 (L 0) (L 1) (L 2) (L 3) (L 4) (L 5) (L 6) (L 7) (L 8) (L 9) true (L 11) (L 12) (L 13) (L 14) (L 15))
  rw[hL,e9]
  exact hall
 |11,ho,hL=>
  have hall:=zy4 l ns x i k n ops ops1 outs at1 at2 L hb o ho
  have ho':some _=some o:=ho
  have dp: ∀q,((wo[11]?.map fun o=>o.after.toList.any fun e=>Region.binds .any e&&Nat.beq e.on q)=some true)→L q=true:=dpq ho
  have e5:L 5=true:=dp 5 (by decide+kernel)
  have e10:L 10=true:=dp 10 (by decide+kernel)
  have e9:L 9=true:=dp 9 (by decide+kernel)
  have e15:L 15=false:=by
   cases h:L 15 with
   |false=>rfl
   |true=>have:=(c15_11 h);rw[hL]at this;cases this
  show OpT Tryz.prog o (jl l ns x i k n ops ops1 outs at1 at2 (L 0) (L 1) (L 2) (L 3) (L 4) (L 5) (L 6) (L 7) (L 8) (L 9) (L 10) (L 11) (L 12) (L 13) (L 14) (L 15)) (jl l ns x i k n ops ops1 outs at1 at2 (L 0) (L 1) (L 2) (L 3) (L 4) (L 5) (L 6) (L 7) (L 8) (L 9) (L 10) true (L 12) (L 13) (L 14) (L 15))
  rw[hL,e5,e10,e9,e15]
  exact hall
 |12,ho,hL=>
  have hall:=zy3 l ns x i k n ops ops1 outs at1 at2 L o ho
  have ho':some _=some o:=ho
  have dp: ∀q,((wo[12]?.map fun o=>o.after.toList.any fun e=>Region.binds .any e&&Nat.beq e.on q)=some true)→L q=true:=dpq ho
  have e0:L 0=true:=dp 0 (by decide+kernel)
  show OpT Tryz.prog o (jl l ns x i k n ops ops1 outs at1 at2 (L 0) (L 1) (L 2) (L 3) (L 4) (L 5) (L 6) (L 7) (L 8) (L 9) (L 10) (L 11) (L 12) (L 13) (L 14) (L 15)) (jl l ns x i k n ops ops1 outs at1 at2 (L 0) (L 1) (L 2) (L 3) (L 4) (L 5) (L 6) (L 7) (L 8) (L 9) (L 10) (L 11) true (L 13) (L 14) (L 15))
  rw[hL,e0]
  exact hall
 |13,ho,hL=>
  have hall:=zy2 l ns x i k n ops ops1 outs at1 at2 L o ho
  have ho':some _=some o:=ho
  have dp: ∀q,((wo[13]?.map fun o=>o.after.toList.any fun e=>Region.binds .any e&&Nat.beq e.on q)=some true)→L q=true:=dpq ho
  have e12:L 12=true:=dp 12 (by decide+kernel)
  show OpT Tryz.prog o (jl l ns x i k n ops ops1 outs at1 at2 (L 0) (L 1) (L 2) (L 3) (L 4) (L 5) (L 6) (L 7) (L 8) (L 9) (L 10) (L 11) (L 12) (L 13) (L 14) (L 15)) (jl l ns x i k n ops ops1 outs at1 at2 (L 0) (L 1) (L 2) (L 3) (L 4) (L 5) (L 6) (L 7) (L 8) (L 9) (L 10) (L 11) (L 12) true (L 14) (L 15))
  rw[hL,e12]
  exact hall
 |14,ho,hL=>
  have hall:=zy1 l ns x i k n ops ops1 outs at1 at2 L o ho
  have ho':some _=some o:=ho
  have dp: ∀q,((wo[14]?.map fun o=>o.after.toList.any fun e=>Region.binds .any e&&Nat.beq e.on q)=some true)→L q=true:=dpq ho
  have e13:L 13=true:=dp 13 (by decide+kernel)
  show OpT Tryz.prog o (jl l ns x i k n ops ops1 outs at1 at2 (L 0) (L 1) (L 2) (L 3) (L 4) (L 5) (L 6) (L 7) (L 8) (L 9) (L 10) (L 11) (L 12) (L 13) (L 14) (L 15)) (jl l ns x i k n ops ops1 outs at1 at2 (L 0) (L 1) (L 2) (L 3) (L 4) (L 5) (L 6) (L 7) (L 8) (L 9) (L 10) (L 11) (L 12) (L 13) true (L 15))
  rw[hL,e13]
  exact hall
 |15,ho,hL=>
  have hall:=zy0 l ns x i k n ops ops1 outs at1 at2 L o ho
  have ho':some _=some o:=ho
  have dp: ∀q,((wo[15]?.map fun o=>o.after.toList.any fun e=>Region.binds .any e&&Nat.beq e.on q)=some true)→L q=true:=dpq ho
  have e14:L 14=true:=dp 14 (by decide+kernel)
  have e11:L 11=true:=dp 11 (by decide+kernel)
  show OpT Tryz.prog o (jl l ns x i k n ops ops1 outs at1 at2 (L 0) (L 1) (L 2) (L 3) (L 4) (L 5) (L 6) (L 7) (L 8) (L 9) (L 10) (L 11) (L 12) (L 13) (L 14) (L 15)) (jl l ns x i k n ops ops1 outs at1 at2 (L 0) (L 1) (L 2) (L 3) (L 4) (L 5) (L 6) (L 7) (L 8) (L 9) (L 10) (L 11) (L 12) (L 13) (L 14) true)
  rw[hL,e14,e11]
  exact hall
 |j+16,ho,_=>
  have hs:wo.size=16:=by kernel_rfl
  have:=(Array.getElem?_eq_some_iff.1 ho).1
  omega
end
end Go.Proofs.YtlocddfailmnpaaGreatDoor

namespace Go.Proofs.YtlocddfailmnpaaGreatDoor
open Go Go.Sx
set_option maxRecDepth 100000
set_option maxHeartbeats 8000000
structure Tp where
 ins:Int
 ops:List TOp
 outs:List Int
def tp0:Tp:=⟨0,[],[]⟩
abbrev tpC (t:Tp):List AV:= [.int .i64 t.ins,.sl .op t.ops,.sl .int t.outs]
abbrev cpV (p:Tp×Int):AV:= .tup [.agg (tpC p.1),.int .i64 p.2]
def zu2 (ns:List zg) (e:Ex):Bool:=(nmE e).any (zpy ns)
def cpE (l:List Ex) (ns:List zg):Tp×Int:=
 if l.any zok=true∨ns.any zp2=true then(tp0,1)else if 8<ns.length∨200<l.length then(tp0,5)else if twB ns=true then(tp0,8)else if l.any (zu2 ns)=true then(tp0,7)else
 if 200<(ndL ns.length ns l ([],[])).2.1.length ∨200<(ndL ns.length ns l ([],[])).1.length then(tp0,5)else(⟨ns.length,(ndL ns.length ns l ([],[])).2.1,(ndL ns.length ns l ([],[])).1⟩,0)
theorem zm8 (ins:Int) (ns:List zg) (x:Ex): ∀(l:List Ex) (st:BS),ndL ins ns (l++ [x]) st=((ndL ins ns l st).1++ [(ndE ins ns x (ndL ins ns l st).2).1],(ndE ins ns x (ndL ins ns l st).2).2)
 | [],st=>by simp[ndL]
 |y::l,st=>by simp only[List.cons_append,ndL,zm8 ins ns x l]
theorem zm9 (ins:Int) (ns:List zg): ∀(l:List Ex) (st:BS),(ndL ins ns l st).1.length =l.length
 | [],st=>rfl
 |y::l,st=>by simp[ndL,zm9 ins ns l]
theorem zyf {l:List Ex} (h: ∀x∈l,okT x=true):zea l≤200*l.length:=by
 induction l with
 |nil=>simp[zea]
 |cons x l ih=>
  have h1:=((zde x).1 (h x List.mem_cons_self)).2.2
  have h2:=ih fun y hy=>h y (List.mem_cons_of_mem _ hy)
  simp only[zea,List.length_cons];omega
noncomputable def qeb:Code:=Tryz.f15.body.getD .skip
theorem f46 (l:List Ex) (ns:List zg) (hl: ∀x∈l,Sm x) (hll:l.length<9223372036854775808) (hns: ∀x∈ns,x.length<9223372036854775808) (hnl:ns.length<9223372036854775808):
 Fn 15 [] [.sl .ex l,.sl .str ns] (cpV (cpE l ns)) []:=by
 obtain⟨A,hA⟩: ∃A,cpE l ns=A:=⟨_,rfl⟩
 rw[hA]
 unfold cpE at hA
 refine wl (code:=qeb) hT2 hmx Tryz.func15 rfl rfl (ex:= []) ?_;conv=>whnf
 refine kf hT2 hmx 4 (fun _:PLift (l.any zok=false∧ns.any zp2=false∧ ¬8<ns.length∧ ¬200<l.length∧twB ns=false∧l.any (zu2 ns)=false)=>⟨[.sl .ex l,.any,.any,.ptr 3 0,.ptr 4 0,.any,.any,.any,.ptr 48 0]++zd0 69,
  [(3,.cells [.sl .str ns]),(4,.cells [.int .i64 0,.nilsl,.nilsl]),(7,.free),(48,.cells [.int .i64 ns.length,.own 100048,.own 200048,.mp 300048]),(100048,.buf 39 .op []),(200048,.buf 3 .int []),(300048,.map .op .int []),(10,.free),(66,.free),(100066,.free),(1500066,.free)]⟩) (fun _=>by kernel_rfl) ?_ (fun hx=>?_)
 rotate_left
 ·obtain⟨⟨h1,h2,h3,h4,h5,h6⟩⟩:=hx
  rw[if_neg (by rw[h1,h2];simp),if_neg (by omega),if_neg (by rw[h5];simp),if_neg (by rw[h6];simp)]at hA
  have hok: ∀x∈l,okT x=true:=fun x hx=>by
   have:=(List.any_eq_false.1 h1) x hx
   simpa[zok]using this
  refine xq hT2 hmx [17,19] ?_;conv=>whnf
  refine⟨Nat,fun i=>i≤l.length,fun i=> [(51,.int .i64 i)],fun i=> [(100048,.buf 39 .op (ndL ns.length ns (l.take i) ([],[])).2.1),(200048,.buf 3 .int (ndL ns.length ns (l.take i) ([],[])).1),(300048,.map .op .int (ndL ns.length ns (l.take i) ([],[])).2.2)],fun i=>l.length-i,0,by omega,?_,fun i hi=>?_⟩
  ·((conv=>whnf);refine And.intro ?_ ?_;repeat' first|refine lc ?_ ?_|exact la0|exact lr rfl|exact ln0|refine lh1 ?_ ?_|exact lh0|exact bf0|exact bd0|refine bc0 ?_|exact bm0 rfl|exact bb0 rfl|exact bg0 rfl|exact li0 rfl|refine lg0 ?_|refine lt0 ?_|fail)
  (refine⟨by kernel_rfl,?_⟩;(conv=>whnf))
  have hi:i≤l.length:=hi
  refine brI (fun h7=>?_) (fun h7=>?_)
  ·conv=>whnf
   have hi:i<l.length:=by simp only[decide_eq_true_eq]at h7;omega
   refine⟨⟨by omega,by omega⟩,fun x hx=>?_⟩
   have hx:l[i]? =some x:=by simpa using hx
   have hm:=List.mem_of_getElem? hx
   have htk:l.take (i+1)=l.take i++ [x]:=by rw[List.take_add_one,hx];rfl
   have hsn:=zm8 ns.length ns x (l.take i) ([],[])
   rw[←htk]at hsn
   have hlo:=zm9 ns.length ns (l.take i) ([],[])
   have hls:=zln ns.length ns (l.take i) ([],[])
   have hsz:=zyf (l:=l.take i) fun y hy=>hok y (List.mem_of_mem_take hy)
   have hsx:=((zde x).1 (hok x hm)).2.2
   have h94:=f94 ns.length ns (ndL ns.length ns (l.take i) ([],[])).1 (by omega) (by omega) hnl (zjn (hok x hm)) (ndL ns.length ns (l.take i) ([],[])).2 (by
    rw[List.length_take]at hsz
    simp only[List.length_nil]at hls;omega)
   obtain⟨R,hR⟩: ∃R,ndL ns.length ns (l.take i) ([],[])=R:=⟨_,rfl⟩
   rw[hR]at hsn hlo h94⊢
   obtain⟨outs,ops,at1⟩:=R
   obtain⟨Q,hQ⟩: ∃Q,ndE ns.length ns x (ops,at1)=Q:=⟨_,rfl⟩
   simp only at hsn h94 hlo
   rw[hQ]at hsn h94
   obtain⟨k,ops1,at2⟩:=Q
   conv=>whnf
   refine zqa 200048 66 ?_
   refine zqb hmx (S17 l ns x i k ns.length ops ops1 outs at1 at2) (by kernel_rfl) ?_ (by kernel_rfl) (fun q=>qbz l ns x i k ns.length ops ops1 outs at1 at2 q (h94.sw [(48,1000001),(100048,1700002),(200048,1000003),(300048,1000004)] rfl) ?_) ?_
   ·((conv=>whnf);refine And.intro ?_ ?_;repeat' first|refine lc ?_ ?_|exact la0|exact lr rfl|exact ln0|refine lh1 ?_ ?_|exact lh0|exact bf0|exact bd0|refine bc0 ?_|exact bm0 rfl|exact bb0 rfl|exact bg0 rfl|exact li0 rfl|refine lg0 ?_|refine lt0 ?_|fail)
   ·rw[List.length_take]at hlo;omega
   ·refine⟨by kernel_rfl,?_⟩;conv=>whnf
    refine⟨i+1,by omega,by show l.length-(i+1)<l.length-i;omega,?_⟩
    ((conv=>whnf);refine And.intro ?_ ?_;repeat' first|refine lc ?_ ?_|exact la0|exact lr rfl|exact ln0|refine lh1 ?_ ?_|exact lh0|exact bf0|exact bd0|refine bc0 ?_|exact bm0 rfl|exact bb0 rfl|exact bg0 rfl|exact li0 rfl|refine lg0 ?_|refine lt0 ?_|fail)
    ·exact ai0 (by rw[wI (by omega)];omega)
    ·exact bb0 (by rw[hsn];rfl)
    ·exact bb0 (by rw[hsn])
    ·exact bm0 (by rw[hsn];rfl)
  ·have hi:i=l.length:=by simp only[decide_eq_false_iff_not]at h7;omega
   subst hi
   rw[List.take_length]
   obtain⟨R,hR⟩: ∃R,ndL ns.length ns l ([],[])=R:=⟨_,rfl⟩
   rw[hR]at hA⊢
   obtain⟨outs,ops,at1⟩:=R
   have h95:=(f95 ns.length ops outs at1).sw [(48,1000001),(100048,1000002),(200048,1000003),(300048,1000004)] rfl
   simp only at hA
   by_cases h8:200<ops.length∨200<outs.length
   ·rw[if_pos h8]at hA
    subst hA
    rw[show(decide (200<ops.length)||decide (200<outs.length))=true by simpa using h8]at h95
    conv=>whnf
    refine uc hT2 1 ?_;conv=>whnf
    refine⟨60,[48,100048,200048,300048],[],zf2 (bH 48 100048 200048 300048 ns.length ops outs at1),.bool true,rfl,by kernel_rfl,h95,?_⟩;conv=>whnf
    exact⟨lt0 (lc (lg0 (lc (lr rfl) (lc (li0 rfl) (lc (li0 rfl) ln0)))) (lc (lr rfl) ln0)),lh0⟩
   ·rw[if_neg h8]at hA
    subst hA
    rw[show(decide (200<ops.length)||decide (200<outs.length))=false by simpa using h8]at h95
    conv=>whnf
    refine uc hT2 1 ?_;conv=>whnf
    refine⟨60,[48,100048,200048,300048],[],zf2 (bH 48 100048 200048 300048 ns.length ops outs at1),.bool false,rfl,by kernel_rfl,h95,?_⟩;conv=>whnf
    exact⟨lr rfl,lh0⟩
 conv=>whnf
 refine cbI [] (l.any zok) (f60b l hl hll) (fun h1=>?_) (fun h1=>?_)
 ·rw[if_pos (.inl h1)]at hA
  subst hA
  conv=>whnf
  exact⟨lt0 (lc (lg0 (lc (lr rfl) (lc (li0 rfl) (lc (li0 rfl) ln0)))) (lc (lr rfl) ln0)),lh0⟩
 conv=>whnf
 refine cbI [] (ns.any zp2) (f32b ns hns hnl) (fun h2=>?_) (fun h2=>?_)
 ·rw[if_pos (.inr h2)]at hA
  subst hA
  conv=>whnf
  exact⟨lt0 (lc (lg0 (lc (lr rfl) (lc (li0 rfl) (lc (li0 rfl) ln0)))) (lc (lr rfl) ln0)),lh0⟩
 rw[if_neg (by rw[h1,h2];simp)]at hA
 conv=>whnf
 refine brI (fun h3=>?_) (fun h3=>?_)
 ·have h3:8<ns.length:=by simp only[decide_eq_true_eq]at h3;omega
  rw[if_pos (.inl h3)]at hA
  subst hA
  conv=>whnf
  exact⟨lt0 (lc (lg0 (lc (lr rfl) (lc (li0 rfl) (lc (li0 rfl) ln0)))) (lc (lr rfl) ln0)),lh0⟩
 have h3: ¬8<ns.length:=by simp only[decide_eq_false_iff_not]at h3;omega
 conv=>whnf
 refine brI (fun h4=>?_) (fun h4=>?_)
 ·have h4:200<l.length:=by simp only[decide_eq_true_eq]at h4;omega
  rw[if_pos (.inr h4)]at hA
  subst hA
  conv=>whnf
  exact⟨lt0 (lc (lg0 (lc (lr rfl) (lc (li0 rfl) (lc (li0 rfl) ln0)))) (lc (lr rfl) ln0)),lh0⟩
 have h4: ¬200<l.length:=by simp only[decide_eq_false_iff_not]at h4;omega
 rw[if_neg (by omega)]at hA
 conv=>whnf
 refine cbI [] (twB ns) (f90 ns hnl) (fun h5=>?_) (fun h5=>?_)
 ·rw[if_pos h5]at hA
  subst hA
  conv=>whnf
  exact⟨lt0 (lc (lg0 (lc (lr rfl) (lc (li0 rfl) (lc (li0 rfl) ln0)))) (lc (lr rfl) ln0)),lh0⟩
 rw[if_neg (by rw[h5];simp)]at hA
 conv=>whnf
 refine⟨Nat,fun i=>i≤l.length∧(l.drop i).any (zu2 ns)=l.any (zu2 ns),fun i=> [(35,.int .i64 i)],fun _=> [],fun i=>l.length-i,0,⟨by simp,rfl⟩,?_,fun i hi=>?_⟩
 ·((conv=>whnf);refine And.intro ?_ ?_;repeat' first|refine lc ?_ ?_|exact la0|exact lr rfl|exact ln0|refine lh1 ?_ ?_|exact lh0|exact bf0|exact bd0|refine bc0 ?_|exact bm0 rfl|exact bg0 rfl|exact li0 rfl|refine lg0 ?_|refine lt0 ?_|fail)
 (refine⟨by kernel_rfl,?_⟩;(conv=>whnf))
 obtain⟨hi1,hi2⟩:=hi
 refine brI (fun h6=>?_) (fun h6=>?_)
 ·conv=>whnf
  have hi:i<l.length:=by simp only[decide_eq_true_eq]at h6;omega
  refine⟨⟨by omega,by omega⟩,fun x hx=>?_⟩
  have hx:l[i]? =some x:=by simpa using hx
  have hm:=List.mem_of_getElem? hx
  rw[qn hx]at hi2
  simp only[List.any_cons]at hi2
  conv=>whnf
  refine gZn (f91 x (hl x hm)) ?_
  have hnl2:(nmE x).length ≤1000:=by
   have g1:=zhn (zox (zg2 (zi1 x)))
   have g2:(zox (zg2 (zi1 x))).length =(zg2 (zi1 x)).length :=List.length_mergeSort _
   have g3:=zic (zi1 x)
   have g4:=zmh x
   have g5:=zwm x
   unfold nmE;omega
  conv=>whnf
  refine cbI [.cells [.sl .str ns]] (zu2 ns x) ((f32c ns hnl (nmE x) (by omega)).sw [(3,1000003)] rfl) (fun h7=>?_) (fun h7=>?_)
  ·conv=>whnf
   have h8:l.any (zu2 ns)=true:=by rw[←hi2,h7];rfl
   rw[if_pos h8]at hA
   subst hA
   exact⟨lt0 (lc (lg0 (lc (lr rfl) (lc (li0 rfl) (lc (li0 rfl) ln0)))) (lc (lr rfl) ln0)),lh0⟩
  ·conv=>whnf
   rw[h7]at hi2
   refine⟨i+1,⟨by omega,by simpa using hi2⟩,by show l.length-(i+1)<l.length-i;omega,?_⟩
   ((conv=>whnf);refine And.intro ?_ ?_;repeat' first|refine lc ?_ ?_|exact la0|exact lr rfl|exact ln0|refine lh1 ?_ ?_|exact lh0|exact bf0|exact bd0|refine bc0 ?_|exact bm0 rfl|exact bg0 rfl|exact li0 rfl|refine lg0 ?_|refine lt0 ?_|fail)
   exact ai0 (by rw[wI (by omega)];omega)
 have hi: ¬i<l.length:=by simp only[decide_eq_false_iff_not]at h6;omega
 have h6:l.any (zu2 ns)=false:=by rw[←hi2,List.drop_of_length_le (by omega)];rfl
 rw[if_neg (by rw[h6];simp)]at hA
 clear hi1 hi2 hi
 conv=>whnf
 refine⟨[],zf2 (bH 2000000 2000001 2000002 2000003 ns.length [] [] []),.ptr 2000000 0,f93 ns.length,?_⟩;conv=>whnf
 refine⟨⟨h1,h2,h3,h4,h5,h6⟩,?_⟩
 ((conv=>whnf);refine And.intro ?_ ?_;repeat' first|refine lc ?_ ?_|exact la0|exact lr rfl|exact ln0|refine lh1 ?_ ?_|exact lh0|exact bf0|exact bd0|refine bc0 ?_|exact bm0 rfl|exact bb0 rfl|exact bg0 rfl|exact li0 rfl|refine lg0 ?_|refine lt0 ?_|fail)
end Go.Proofs.YtlocddfailmnpaaGreatDoor
