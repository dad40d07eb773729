/-
  Trees that are gone through until a callback has enough; tree.Rational.
-/
import Derived.Test.YtajnlbbgolmklaaGreatDoorQVa
import Derived.Test.YtajnlbbgolmklaaGreatDoorQUa
import Derived.Shelf.Sort.Plain
import Derived.Shelf.Slices.In.SortNone
import Derived.Shelf.Slices.CompactS
import Derived.Test.YtajnlbbgolmklaaGreatDoorQZz
set_option linter.unusedVariables false
set_option linter.unusedSimpArgs false
namespace Go.Proofs.YtajnlbbgolmklaaGreatDoor
open Go Go.Sx
set_option maxRecDepth 100000
set_option maxHeartbeats 8000000
def qeo (l:Nat) (J:Bool→GJ) (p:Ex→Bool):Prop:= ∀y:Ex,zx3 Tryz.prog l [(qo,.gst (J true))] [.agg (exC y)] (.bool (p y)) [(qo,.gst (J (p y)))]
abbrev B1 (l:Nat) (J:Bool→GJ) (b:Bool):Hp:= [(1000003,.cells [.cb l]),(qo,.gst (J b))]
abbrev B2 (l:Nat) (J:Bool→GJ) (b:Bool):Hp:= [(1000004,.cells [.fn 218 [.ptr 1000003 0]]),(1000003,.cells [.cb l]),(qo,.gst (J b))]
theorem leB1 {h h':Hp} (l:Nat) (J:Bool→GJ) (b:Bool):leH h h' (B1 l J b) (B1 l J b):=lh1 (bc0 (lc (lr rfl) ln0)) (lh1 (bg0 rfl) lh0)
theorem leB2 {h h':Hp} (l:Nat) (J:Bool→GJ) (b:Bool):leH h h' (B2 l J b) (B2 l J b):=lh1 (bc0 (lc (lr rfl) ln0)) (lh1 (bc0 (lc (lr rfl) ln0)) (lh1 (bg0 rfl) lh0))
mutual
def zee (p:Ex→Bool):Ex→Bool
 | .mk k q s n l=>p (.mk k q s n l)&&zjj p l
def zjj (p:Ex→Bool):List Ex→Bool
 | []=>true
 |x::l=>zee p x&&zjj p l
end
def ixA (p:Ex→Bool):List Ex→Nat→Int
 | [],_=> -1
 |x::l,i=>if zee p x then ixA p l (i+1)else i
theorem zsz (p:Ex→Bool): ∀(l:List Ex) (i:Nat),0≤ixA p l i↔zjj p l=false
 | [],i=>by simp[ixA,zjj]
 |x::l,i=>by
  have ih:=zsz p l (i+1)
  by_cases h:zee p x=true
  ·simp[ixA,zjj,h,ih]
  ·simp[ixA,zjj,h]
abbrev zx1 (l:Nat) (J:Bool→GJ) (p:Ex→Bool) (e:Ex):Prop:=Fn 144 [(qo,.gst (J true))] [.agg (exC e),.cb l] (.bool (zee p e)) [(qo,.gst (J (zee p e)))]
theorem s153 (l:Nat) (J:Bool→GJ) (p:Ex→Bool) (x:Ex) (hx:zx1 l J p x):Fn 218 (B1 l J true) [.agg (exC x),.ptr 1000003 0] (.bool (zee p x)) (B1 l J (zee p x)):=by
 refine fnT hT hmx Tryz.func218 rfl rfl (ex:= []) ?_;conv=>whnf
 refine⟨[.gst (J (zee p x))],.bool (zee p x),hx,?_⟩;conv=>whnf
 exact⟨lr rfl,leB1 l J _⟩
theorem s163 (l:Nat) (J:Bool→GJ) (p:Ex→Bool) (x:Ex) (hx:zx1 l J p x):Fn 281 (B2 l J true) [.agg (exC x),.ptr 1000004 0] (.bool (!zee p x)) (B2 l J (zee p x)):=by
 refine fnT hT hmx Tryz.func281 rfl rfl (ex:= []) ?_;conv=>whnf
 refine⟨[.cells [.cb l],.gst (J (zee p x))],.bool (zee p x),s153 l J p x hx,?_⟩;conv=>whnf
 exact⟨ab0 rfl,leB2 l J _⟩
theorem s114 (l:Nat) (J:Bool→GJ) (p:Ex→Bool) (xs:List Ex) (hl: ∀x∈xs,zx1 l J p x) (hlen:xs.length<9223372036854775808):
 Fn 184 (B2 l J true) [.sl .ex xs,.fn 281 [.ptr 1000004 0]] (.int .i64 (ixA p xs 0)) (B2 l J (zjj p xs)):=by
 refine fnT hT hmx Tryz.func184 rfl rfl (ex:= []) ?_;conv=>whnf
 refine⟨Nat,fun i=>i≤xs.length∧ixA p (xs.drop i) i=ixA p xs 0∧zjj p (xs.drop i)=zjj p xs,fun i=> [(8,.int .i64 i)],fun i=> [(qo,.gst (J true))],fun i=>xs.length-i,0,⟨by simp,rfl,rfl⟩,?_,fun i hi=>?_⟩
 ·((conv=>whnf);refine And.intro ?_ ?_;repeat' first|refine lc ?_ ?_|exact la0|exact lr rfl|exact ln0|refine lh1 ?_ ?_|exact lh0|exact bf0|exact bd0|refine bc0 ?_|exact bm0 rfl|exact bg0 rfl|exact li0 rfl|refine lg0 ?_|refine lt0 ?_|fail)
 ·(refine⟨by kernel_rfl,?_⟩;(conv=>whnf))
  obtain⟨hi1,hi2,hi3⟩:=hi
  refine brI (fun h1=>?_) (fun h1=>?_)
  ·conv=>whnf
   have hi:i<xs.length:=by simp only[decide_eq_true_eq]at h1;omega
   refine⟨⟨by omega,by omega⟩,fun e he=>?_⟩
   have he:xs[i]? =some e:=by simpa using he
   rw[ql he]at hi2 hi3
   simp only[ixA,zjj]at hi2 hi3
   have hx:=s163 l J p e (hl e (List.mem_of_getElem? he))
   conv=>whnf
   cases hp:zee p e with
   |true=>
    rw[hp]at hx hi2 hi3
    refine⟨[.cells [.fn 218 [.ptr 1000003 0]],.cells [.cb l],.gst (J true)],.bool false,hx,?_⟩;conv=>whnf
    refine⟨i+1,⟨by omega,by simpa using hi2,by simpa using hi3⟩,by show xs.length-(i+1)<xs.length-i;omega,?_⟩
    ((conv=>whnf);refine And.intro ?_ ?_;repeat' first|refine lc ?_ ?_|exact la0|exact lr rfl|exact ln0|refine lh1 ?_ ?_|exact lh0|exact bf0|exact bd0|refine bc0 ?_|exact bm0 rfl|exact bg0 rfl|exact li0 rfl|refine lg0 ?_|refine lt0 ?_|fail)
    exact ai0 (by rw[wI (by omega)];omega)
   |false=>
    rw[hp]at hx hi2 hi3
    refine⟨[.cells [.fn 218 [.ptr 1000003 0]],.cells [.cb l],.gst (J false)],.bool true,hx,?_⟩;conv=>whnf
    rw[←hi3]
    exact⟨ai0 (by simpa using hi2),leB2 l J _⟩
  ·conv=>whnf
   have hi: ¬i<xs.length:=by simp only[decide_eq_false_iff_not]at h1;omega
   rw[List.drop_of_length_le (by omega)]at hi2 hi3
   rw[←hi3]
   exact⟨ai0 hi2,leB2 l J _⟩
theorem s60 (l:Nat) (J:Bool→GJ) (p:Ex→Bool) (xs:List Ex) (hl: ∀x∈xs,zx1 l J p x) (hlen:xs.length<9223372036854775808):
 Fn 111 (B2 l J true) [.sl .ex xs,.fn 281 [.ptr 1000004 0]] (.bool (!zjj p xs)) (B2 l J (zjj p xs)):=by
 refine fnT hT hmx Tryz.func111 rfl rfl (ex:= []) ?_;conv=>whnf
 refine⟨[.cells [.fn 218 [.ptr 1000003 0]],.cells [.cb l],.gst (J (zjj p xs))],_,s114 l J p xs hl hlen,?_⟩;conv=>whnf
 exact⟨ab0 (by rw[Bool.eq_iff_iff,decide_eq_true_eq];have:=zsz p xs 0;simp only[ge_iff_le,this,Bool.not_eq_true']),leB2 l J _⟩
theorem s152 (l:Nat) (J:Bool→GJ) (p:Ex→Bool) (xs:List Ex) (hl: ∀x∈xs,zx1 l J p x) (hlen:xs.length<9223372036854775808):
 Fn 217 (B1 l J true) [.sl .ex xs,.fn 218 [.ptr 1000003 0]] (.bool (zjj p xs)) (B1 l J (zjj p xs)):=by
 refine fnT hT hmx Tryz.func217 rfl rfl (ex:= []) ?_;conv=>whnf
 refine⟨[.cells [.fn 218 [.ptr 1000003 0]],.cells [.cb l],.gst (J (zjj p xs))],.bool (!zjj p xs),(s60 l J p xs hl hlen).sw [(3,1000004)] rfl,?_⟩;conv=>whnf
 exact⟨ab0 (by simp),leB1 l J _⟩
theorem s127 (l:Nat) (J:Bool→GJ) (p:Ex→Bool) (hJ:qeo l J p): ∀e:Ex,Sm e→zx1 l J p e:=by
 refine zmk fun k q s n xs ih hs=>?_
 simp only[Sm]at hs
 have hl: ∀x∈xs,zx1 l J p x:=fun x hx=>ih x hx (zjm hs.2.2 x hx)
 have hy:=hJ (.mk k q s n xs)
 unfold zx1
 simp only[zee]
 refine fnT hT hmx Tryz.func144 rfl rfl (ex:= []) ?_;conv=>whnf
 cases hp:p (.mk k q s n xs)with
 |true=>
  rw[hp]at hy
  refine⟨[.gst (J true)],.bool true,hy,?_⟩;conv=>whnf
  refine⟨[.cells [.cb l],.gst (J (zjj p xs))],.bool (zjj p xs),(s152 l J p xs hl hs.2.1).sw [(3,1000003)] rfl,?_⟩;conv=>whnf
  exact⟨lr rfl,lh1 (bg0 rfl) lh0⟩
 |false=>
  rw[hp]at hy
  refine⟨[.gst (J false)],.bool false,hy,?_⟩;conv=>whnf
  exact⟨lr rfl,lh1 (bg0 rfl) lh0⟩
theorem s126 (l:Nat) (J:Bool→GJ) (p:Ex→Bool) (hJ:qeo l J p) (e:Ex) (he:Sm e) (b:Bool) (hb:b=(!okT e||zee p e)):
 Fn 143 [(qo,.gst (J true)),(1000001,.cells (exC e))] [.cb l,.ptr 1000001 0] (.tup []) [(qo,.gst (J b)),(1000001,.cells (exC e))]:=by
 refine fnT hT hmx Tryz.func143 rfl rfl (ex:= []) ?_;conv=>whnf
 refine cbI [] (okT e) (f17 e he) (fun h1=>?_) (fun h1=>?_)
 ·conv=>whnf
  refine gZn (f128 (zaf h1)) ?_;conv=>whnf
  refine⟨[.gst (J (zee p e))],.bool (zee p e),s127 l J p hJ e he,?_⟩;conv=>whnf
  refine⟨lr rfl,lh1 (bg0 ?_) (lh1 (bc0 (zaa rfl)) lh0)⟩
  rw[hb,h1];rfl
 ·conv=>whnf
  refine⟨lr rfl,lh1 (bg0 ?_) (lh1 (bc0 (zaa rfl)) lh0)⟩
  rw[hb,h1];rfl
def zy3 (e:Ex):Bool:=okT e&&zee (fun y=>decide (y.k<9)) e
theorem f101 (e:Ex) (he:Sm e):Fn 97 [] [.agg (exC e)] (.bool (zy3 e)) []:=by
 obtain⟨b,hb⟩: ∃b,b=(!okT e||zee (fun y=>decide (y.k<9)) e):=⟨_,rfl⟩
 refine fnT hT hmx Tryz.func97 rfl rfl (ex:= []) ?_;conv=>whnf
 refine⟨[],[.cells (exC e)],.fn 143 [.ptr 2000000 0],f71 e,?_⟩;conv=>whnf
 refine⟨[2],Bool,Ex,fun _=> [.cells [.bool false]],fun b=>b,fun _=> .ret,fun y=> [.agg (exC y)],fun _ y=>decide (y.k<9),true,b,.tup [],[.cells (exC e)],?_,rfl,by kernel_rfl,by kernel_rfl,fun _=>⟨rfl,rfl⟩,fun _=>rfl,?_,?_,?_⟩
 ·rfl
 ·intro l J h
  exact(s126 l J (fun y=>decide (y.k<9)) (fun y=>h true y rfl) e he b hb).sw [(5,1000001)] rfl
 ·intro x y _
  conv=>whnf
  refine brI (fun h1=>?_) (fun h1=>?_)
  ·conv=>whnf
   have h1:y.k≥9:=by simpa using h1
   refine⟨by simp only[decide_eq_false_iff_not];omega,rfl,?_⟩
   unfold zmm
   exact lh1 (bc0 (lc (lr rfl) ln0)) lh0
  ·conv=>whnf
   have h1: ¬y.k≥9:=by simpa using h1
   refine⟨by simp only[decide_eq_true_eq];omega,?_⟩
   unfold zmm
   exact lh1 (bc0 (lc (lr rfl) ln0)) lh0
 ·cases b with
  |true=>
   conv=>whnf
   refine gZn (f17 e he) ?_;conv=>whnf
   exact⟨ab0 (by unfold zy3;cases h1:okT e<;>rw[h1]at hb<;>simp_all),lh0⟩
  |false=>
   conv=>whnf
   exact⟨ab0 (by unfold zy3;cases h1:okT e<;>rw[h1]at hb<;>simp_all),lh0⟩
end Go.Proofs.YtajnlbbgolmklaaGreatDoor

namespace Go.Proofs.YtajnlbbgolmklaaGreatDoor
open Go Go.Sx
set_option maxRecDepth 100000
set_option maxHeartbeats 8000000
def qbd (a:Rt):Nat→Rt→Rt×Int
 |0,r=>(r,0)
 |n+1,r=>if(zw9 r a).2=0 then qbd a n (zw9 r a).1 else zw9 r a
def xop (k p:Int) (a b:Rt):Rt×Int:=
 if k=3 then rAdd a b else if k=4 then qbc a b else if k=5 then zw9 a b else if k=6 then rDiv a b else if k=7 then qbc ⟨0,1⟩ a else qbd a p.toNat ⟨1,1⟩
abbrev zh8:=List (zd×Rt)
mutual
def xcE (es:zh8):Ex→Rt×Int
 | .mk k q s p l=>if k=1 then(q,0)else if k=2 then(zc6 .str s ⟨0,0⟩ es,0)else xcL es k p l []
def xcL (es:zh8) (k p:Int):List Ex→List Rt→Rt×Int
 | [],acc=>xop k p (acc[0]?.getD ⟨0,0⟩) (acc[1]?.getD ⟨0,0⟩)
 |x::l,acc=>if(xcE es x).2=0 then xcL es k p l (acc++ [(xcE es x).1])else xcE es x
end
abbrev Hm (es:zh8):Hp:= [(1000001,.map .str .rat es)]
theorem zi0 {h h':Hp} (es:zh8):leH h h' (Hm es) (Hm es):=lh1 (bm0 rfl) lh0
abbrev zdl (es:zh8) (e:Ex):Prop:=Fn 99 (Hm es) [.agg (exC e),.mp 1000001] (rto (xcE es e)) (Hm es)
theorem zv5 (es:zh8) (r:Rt):zdl es (zik r):=by
 unfold zdl
 rw[show xcE es (zik r)=(r,0) by simp[zik,xcE]]
 refine fnT hT hmx Tryz.func99 rfl rfl (ex:= []) ?_;conv=>whnf
 exact⟨lr rfl,zi0 es⟩
theorem zv3 (es:zh8) (s:zd):zdl es (zgr s):=by
 unfold zdl
 rw[show xcE es (zgr s)=(zc6 .str s ⟨0,0⟩ es,0) by simp[zgr,xcE]]
 refine fnT hT hmx Tryz.func99 rfl rfl (ex:= []) ?_;conv=>whnf
 exact⟨lr rfl,zi0 es⟩
theorem zv6 (es:zh8) (a:Ex) (ha:zdl es a):zdl es (opE 7 0 [a]):=by
 unfold zdl at*
 rw[show xcE es (opE 7 0 [a])=if(xcE es a).2=0 then qbc ⟨0,1⟩ (xcE es a).1 else xcE es a by simp[opE,xcE,xcL,xop]]
 generalize xcE es a=A at ha
 obtain⟨x,f⟩:=A
 refine fnT hT hmx Tryz.func99 rfl rfl (ex:= []) ?_;conv=>whnf
 refine⟨Nat,fun i=>i≤1∧(i=1→f=0),fun i=> [(29,.int .i64 i)],fun i=> [(6,.cells (if i=0 then [.int .i64 0,.int .i64 0,.int .i64 0,.int .i64 0]else [.int .i64 x.n,.int .i64 x.d,.int .i64 0,.int .i64 0]))],fun i=>1-i,0,⟨by omega,by omega⟩,?_,fun i hi=>?_⟩
 ·((conv=>whnf);refine And.intro ?_ ?_;repeat' first|refine lc ?_ ?_|exact la0|exact lr rfl|exact ln0|refine lh1 ?_ ?_|exact lh0|exact bf0|exact bd0|refine bc0 ?_|exact bm0 rfl|exact bg0 rfl|exact li0 rfl|refine lg0 ?_|refine lt0 ?_|fail)
 obtain⟨hi1,hi2⟩:=hi
 obtain rfl|rfl:i=0∨i=1:=by omega
 ·(refine⟨by kernel_rfl,?_⟩;(conv=>whnf))
  refine ix0 ?_;conv=>whnf
  refine⟨[.map .str .rat es],rto (x,f),ha,?_⟩;conv=>whnf
  refine brI (fun h1=>?_) (fun h1=>?_)
  ·conv=>whnf
   have h1:f≠0:=by simpa using h1
   rw[if_neg h1]
   exact⟨lr rfl,zi0 es⟩
  ·conv=>whnf
   have h1:f=0:=by simpa using h1
   refine⟨⟨by omega,by omega⟩,?_⟩;conv=>whnf
   refine⟨1,⟨by omega,fun _=>h1⟩,by show 1-1<1-0;omega,?_⟩
   ((conv=>whnf);refine And.intro ?_ ?_;repeat' first|refine lc ?_ ?_|exact la0|exact lr rfl|exact ln0|refine lh1 ?_ ?_|exact lh0|exact bf0|exact bd0|refine bc0 ?_|exact bm0 rfl|exact bg0 rfl|exact li0 rfl|refine lg0 ?_|refine lt0 ?_|fail)
 ·(refine⟨by kernel_rfl,?_⟩;(conv=>whnf))
  have h1:f=0:=hi2 rfl
  rw[if_pos h1]
  refine⟨⟨by omega,by omega⟩,?_⟩;conv=>whnf
  refine gZn (f108 ⟨0,1⟩ x) ?_;conv=>whnf
  exact⟨lr rfl,zi0 es⟩
theorem zv4 (es:zh8) (n:Int) (h0:0≤n) (h16:n≤16) (a:Ex) (ha:zdl es a):zdl es (opE 8 n [a]):=by
 unfold zdl at*
 rw[show xcE es (opE 8 n [a])=if(xcE es a).2=0 then qbd (xcE es a).1 n.toNat ⟨1,1⟩else xcE es a by simp[opE,xcE,xcL,xop]]
 generalize xcE es a=A at ha
 obtain⟨x,f⟩:=A
 refine fnT hT hmx Tryz.func99 rfl rfl (ex:= []) ?_;conv=>whnf
 refine⟨Nat,fun i=>i≤1∧(i=1→f=0),fun i=> [(29,.int .i64 i)],fun i=> [(6,.cells (if i=0 then [.int .i64 0,.int .i64 0,.int .i64 0,.int .i64 0]else [.int .i64 x.n,.int .i64 x.d,.int .i64 0,.int .i64 0]))],fun i=>1-i,0,⟨by omega,by omega⟩,?_,fun i hi=>?_⟩
 ·((conv=>whnf);refine And.intro ?_ ?_;repeat' first|refine lc ?_ ?_|exact la0|exact lr rfl|exact ln0|refine lh1 ?_ ?_|exact lh0|exact bf0|exact bd0|refine bc0 ?_|exact bm0 rfl|exact bg0 rfl|exact li0 rfl|refine lg0 ?_|refine lt0 ?_|fail)
 obtain⟨hi1,hi2⟩:=hi
 obtain rfl|rfl:i=0∨i=1:=by omega
 ·(refine⟨by kernel_rfl,?_⟩;(conv=>whnf))
  refine ix0 ?_;conv=>whnf
  refine⟨[.map .str .rat es],rto (x,f),ha,?_⟩;conv=>whnf
  refine brI (fun h1=>?_) (fun h1=>?_)
  ·conv=>whnf
   have h1:f≠0:=by simpa using h1
   rw[if_neg h1]
   exact⟨lr rfl,zi0 es⟩
  ·conv=>whnf
   have h1:f=0:=by simpa using h1
   refine⟨⟨by omega,by omega⟩,?_⟩;conv=>whnf
   refine⟨1,⟨by omega,fun _=>h1⟩,by show 1-1<1-0;omega,?_⟩
   ((conv=>whnf);refine And.intro ?_ ?_;repeat' first|refine lc ?_ ?_|exact la0|exact lr rfl|exact ln0|refine lh1 ?_ ?_|exact lh0|exact bf0|exact bd0|refine bc0 ?_|exact bm0 rfl|exact bg0 rfl|exact li0 rfl|refine lg0 ?_|refine lt0 ?_|fail)
 ·(refine⟨by kernel_rfl,?_⟩;(conv=>whnf))
  have h1:f=0:=hi2 rfl
  simp only[if_pos h1]
  obtain⟨W,hW⟩: ∃W,qbd x n.toNat ⟨1,1⟩=W:=⟨_,rfl⟩
  rw[hW]
  refine⟨Nat×Rt×Int,fun y=>(y.1:Int)≤n∧(y.2.2=0→qbd x (n.toNat-y.1) y.2.1=W)∧(y.2.2≠0→(y.2.1,y.2.2)=W),fun y=> [(13,.int .i64 y.1),(12,.int .i64 y.2.2)],fun y=> [(11,.cells [.int .i64 y.2.1.n,.int .i64 y.2.1.d])],fun y=>n.toNat-y.1,(0,⟨1,1⟩,0),⟨by simpa using h0,fun _=>hW,fun h=>absurd rfl h⟩,?_,fun y hy=>?_⟩
  ·((conv=>whnf);refine And.intro ?_ ?_;repeat' first|refine lc ?_ ?_|exact la0|exact lr rfl|exact ln0|refine lh1 ?_ ?_|exact lh0|exact bf0|exact bd0|refine bc0 ?_|exact bm0 rfl|exact bg0 rfl|exact li0 rfl|refine lg0 ?_|refine lt0 ?_|fail)
  (refine⟨by kernel_rfl,?_⟩;(conv=>whnf))
  obtain⟨j,r,g⟩:=y
  obtain⟨hy1,hy2,hy3⟩:=hy
  simp only at hy1 hy2 hy3
  refine brI (fun h2=>?_) (fun h2=>?_)
  ·conv=>whnf
   have h2:decide ((j:Int)<n)=true:=h2
   have h2:(j:Int)<n:=by simpa using h2
   refine brI (fun h3=>?_) (fun h3=>?_)
   ·conv=>whnf
    have h3:g=0:=by simpa using h3
    have hy2:=hy2 h3
    rw[show n.toNat-j=(n.toNat-(j+1))+1 by omega]at hy2
    simp only[qbd]at hy2
    refine⟨⟨by omega,by omega⟩,?_⟩;conv=>whnf
    have h142:=f142 r x
    generalize zw9 r x=B at h142 hy2
    obtain⟨r2,g2⟩:=B
    simp only at hy2
    refine⟨[],rto (r2,g2),h142,?_⟩;conv=>whnf
    refine⟨(j+1,r2,g2),⟨by simp only;omega,fun h=>?_,fun h=>?_⟩,by show n.toNat-(j+1)<n.toNat-j;omega,?_⟩
    ·simp only at h;rw[if_pos h]at hy2;exact hy2
    ·simp only at h;rw[if_neg h]at hy2;exact hy2
    ((conv=>whnf);refine And.intro ?_ ?_;repeat' first|refine lc ?_ ?_|exact la0|exact lr rfl|exact ln0|refine lh1 ?_ ?_|exact lh0|exact bf0|exact bd0|refine bc0 ?_|exact bm0 rfl|exact bg0 rfl|exact li0 rfl|refine lg0 ?_|refine lt0 ?_|fail)
    exact ai0 (by rw[wI (by simp only;omega)];simp only;omega)
   ·conv=>whnf
    have h3:g≠0:=by simpa using h3
    have hy3:=hy3 h3
    subst hy3
    exact⟨lr rfl,zi0 es⟩
  ·conv=>whnf
   have h2:decide ((j:Int)<n)=false:=h2
   have h2: ¬(j:Int)<n:=by simpa using h2
   have h3:(r,g)=W:=by
    by_cases hg:g=0
    ·have:=hy2 hg
     rw[show n.toNat-j=0 by omega]at this
     rw[←this,hg];rfl
    ·exact hy3 hg
   subst h3
   exact⟨lr rfl,zi0 es⟩
theorem qdm (es:zh8) (a b:Ex) (ha:zdl es a) (hb:zdl es b):zdl es (opE 3 0 [a,b]):=by
 unfold zdl at*
 rw[show xcE es (opE 3 0 [a,b])=if(xcE es a).2=0 then(if(xcE es b).2=0 then rAdd (xcE es a).1 (xcE es b).1 else xcE es b)else xcE es a by simp[opE,xcE,xcL,xop]]
 generalize xcE es a=A at ha
 generalize xcE es b=B at hb
 obtain⟨x,f⟩:=A
 obtain⟨y,g⟩:=B
 refine fnT hT hmx Tryz.func99 rfl rfl (ex:= []) ?_;conv=>whnf
 refine⟨Nat,fun i=>i≤2∧(1≤i→f=0)∧(i=2→g=0),fun i=> [(29,.int .i64 i)],fun i=> [(6,.cells (match i with
  |0=> [.int .i64 0,.int .i64 0,.int .i64 0,.int .i64 0]
  |1=> [.int .i64 x.n,.int .i64 x.d,.int .i64 0,.int .i64 0]
  | _=> [.int .i64 x.n,.int .i64 x.d,.int .i64 y.n,.int .i64 y.d]))],fun i=>2-i,0,⟨by omega,by omega,by omega⟩,?_,fun i hi=>?_⟩
 ·((conv=>whnf);refine And.intro ?_ ?_;repeat' first|refine lc ?_ ?_|exact la0|exact lr rfl|exact ln0|refine lh1 ?_ ?_|exact lh0|exact bf0|exact bd0|refine bc0 ?_|exact bm0 rfl|exact bg0 rfl|exact li0 rfl|refine lg0 ?_|refine lt0 ?_|fail)
 obtain⟨hi1,hi2,hi3⟩:=hi
 obtain rfl|rfl|rfl:i=0∨i=1∨i=2:=by omega
 ·(refine⟨by kernel_rfl,?_⟩;(conv=>whnf))
  refine ix0 ?_;conv=>whnf
  refine⟨[.map .str .rat es],rto (x,f),ha,?_⟩;conv=>whnf
  refine brI (fun h1=>?_) (fun h1=>?_)
  ·conv=>whnf
   have h1:f≠0:=by simpa using h1
   rw[if_neg h1]
   exact⟨lr rfl,zi0 es⟩
  ·conv=>whnf
   have h1:f=0:=by simpa using h1
   refine⟨⟨by omega,by omega⟩,?_⟩;conv=>whnf
   refine⟨1,⟨by omega,fun _=>h1,by omega⟩,by show 2-1<2-0;omega,?_⟩
   ((conv=>whnf);refine And.intro ?_ ?_;repeat' first|refine lc ?_ ?_|exact la0|exact lr rfl|exact ln0|refine lh1 ?_ ?_|exact lh0|exact bf0|exact bd0|refine bc0 ?_|exact bm0 rfl|exact bg0 rfl|exact li0 rfl|refine lg0 ?_|refine lt0 ?_|fail)
 ·(refine⟨by kernel_rfl,?_⟩;(conv=>whnf))
  have h0:f=0:=hi2 (by omega)
  simp only[if_pos h0]
  refine ix1 ?_;conv=>whnf
  refine⟨[.map .str .rat es],rto (y,g),hb,?_⟩;conv=>whnf
  refine brI (fun h1=>?_) (fun h1=>?_)
  ·conv=>whnf
   have h1:g≠0:=by simpa using h1
   rw[if_neg h1]
   exact⟨lr rfl,zi0 es⟩
  ·conv=>whnf
   have h1:g=0:=by simpa using h1
   refine⟨⟨by omega,by omega⟩,?_⟩;conv=>whnf
   refine⟨2,⟨by omega,fun _=>h0,fun _=>h1⟩,by show 2-2<2-1;omega,?_⟩
   ((conv=>whnf);refine And.intro ?_ ?_;repeat' first|refine lc ?_ ?_|exact la0|exact lr rfl|exact ln0|refine lh1 ?_ ?_|exact lh0|exact bf0|exact bd0|refine bc0 ?_|exact bm0 rfl|exact bg0 rfl|exact li0 rfl|refine lg0 ?_|refine lt0 ?_|fail)
 ·(refine⟨by kernel_rfl,?_⟩;(conv=>whnf))
  have h0:f=0:=hi2 (by omega)
  have h1:g=0:=hi3 rfl
  simp only[if_pos h0,if_pos h1]
  refine⟨⟨by omega,by omega⟩,?_⟩;conv=>whnf
  refine⟨⟨by omega,by omega⟩,?_⟩;conv=>whnf
  refine gZn (f58 x y) ?_;conv=>whnf
  exact⟨lr rfl,zi0 es⟩
theorem qdl (es:zh8) (a b:Ex) (ha:zdl es a) (hb:zdl es b):zdl es (opE 4 0 [a,b]):=by
 unfold zdl at*
 rw[show xcE es (opE 4 0 [a,b])=if(xcE es a).2=0 then(if(xcE es b).2=0 then qbc (xcE es a).1 (xcE es b).1 else xcE es b)else xcE es a by simp[opE,xcE,xcL,xop]]
 generalize xcE es a=A at ha
 generalize xcE es b=B at hb
 obtain⟨x,f⟩:=A
 obtain⟨y,g⟩:=B
 refine fnT hT hmx Tryz.func99 rfl rfl (ex:= []) ?_;conv=>whnf
 refine⟨Nat,fun i=>i≤2∧(1≤i→f=0)∧(i=2→g=0),fun i=> [(29,.int .i64 i)],fun i=> [(6,.cells (match i with
  |0=> [.int .i64 0,.int .i64 0,.int .i64 0,.int .i64 0]
  |1=> [.int .i64 x.n,.int .i64 x.d,.int .i64 0,.int .i64 0]
  | _=> [.int .i64 x.n,.int .i64 x.d,.int .i64 y.n,.int .i64 y.d]))],fun i=>2-i,0,⟨by omega,by omega,by omega⟩,?_,fun i hi=>?_⟩
 ·((conv=>whnf);refine And.intro ?_ ?_;repeat' first|refine lc ?_ ?_|exact la0|exact lr rfl|exact ln0|refine lh1 ?_ ?_|exact lh0|exact bf0|exact bd0|refine bc0 ?_|exact bm0 rfl|exact bg0 rfl|exact li0 rfl|refine lg0 ?_|refine lt0 ?_|fail)
 obtain⟨hi1,hi2,hi3⟩:=hi
 obtain rfl|rfl|rfl:i=0∨i=1∨i=2:=by omega
 ·(refine⟨by kernel_rfl,?_⟩;(conv=>whnf))
  refine ix0 ?_;conv=>whnf
  refine⟨[.map .str .rat es],rto (x,f),ha,?_⟩;conv=>whnf
  refine brI (fun h1=>?_) (fun h1=>?_)
  ·conv=>whnf
   have h1:f≠0:=by simpa using h1
   rw[if_neg h1]
   exact⟨lr rfl,zi0 es⟩
  ·conv=>whnf
   have h1:f=0:=by simpa using h1
   refine⟨⟨by omega,by omega⟩,?_⟩;conv=>whnf
   refine⟨1,⟨by omega,fun _=>h1,by omega⟩,by show 2-1<2-0;omega,?_⟩
   ((conv=>whnf);refine And.intro ?_ ?_;repeat' first|refine lc ?_ ?_|exact la0|exact lr rfl|exact ln0|refine lh1 ?_ ?_|exact lh0|exact bf0|exact bd0|refine bc0 ?_|exact bm0 rfl|exact bg0 rfl|exact li0 rfl|refine lg0 ?_|refine lt0 ?_|fail)
 ·(refine⟨by kernel_rfl,?_⟩;(conv=>whnf))
  have h0:f=0:=hi2 (by omega)
  simp only[if_pos h0]
  refine ix1 ?_;conv=>whnf
  refine⟨[.map .str .rat es],rto (y,g),hb,?_⟩;conv=>whnf
  refine brI (fun h1=>?_) (fun h1=>?_)
  ·conv=>whnf
   have h1:g≠0:=by simpa using h1
   rw[if_neg h1]
   exact⟨lr rfl,zi0 es⟩
  ·conv=>whnf
   have h1:g=0:=by simpa using h1
   refine⟨⟨by omega,by omega⟩,?_⟩;conv=>whnf
   refine⟨2,⟨by omega,fun _=>h0,fun _=>h1⟩,by show 2-2<2-1;omega,?_⟩
   ((conv=>whnf);refine And.intro ?_ ?_;repeat' first|refine lc ?_ ?_|exact la0|exact lr rfl|exact ln0|refine lh1 ?_ ?_|exact lh0|exact bf0|exact bd0|refine bc0 ?_|exact bm0 rfl|exact bg0 rfl|exact li0 rfl|refine lg0 ?_|refine lt0 ?_|fail)
 ·(refine⟨by kernel_rfl,?_⟩;(conv=>whnf))
  have h0:f=0:=hi2 (by omega)
  have h1:g=0:=hi3 rfl
  simp only[if_pos h0,if_pos h1]
  refine⟨⟨by omega,by omega⟩,?_⟩;conv=>whnf
  refine⟨⟨by omega,by omega⟩,?_⟩;conv=>whnf
  refine gZn (f108 x y) ?_;conv=>whnf
  exact⟨lr rfl,zi0 es⟩
theorem qdk (es:zh8) (a b:Ex) (ha:zdl es a) (hb:zdl es b):zdl es (opE 5 0 [a,b]):=by
 unfold zdl at*
 rw[show xcE es (opE 5 0 [a,b])=if(xcE es a).2=0 then(if(xcE es b).2=0 then zw9 (xcE es a).1 (xcE es b).1 else xcE es b)else xcE es a by simp[opE,xcE,xcL,xop]]
 generalize xcE es a=A at ha
 generalize xcE es b=B at hb
 obtain⟨x,f⟩:=A
 obtain⟨y,g⟩:=B
 refine fnT hT hmx Tryz.func99 rfl rfl (ex:= []) ?_;conv=>whnf
 refine⟨Nat,fun i=>i≤2∧(1≤i→f=0)∧(i=2→g=0),fun i=> [(29,.int .i64 i)],fun i=> [(6,.cells (match i with
  |0=> [.int .i64 0,.int .i64 0,.int .i64 0,.int .i64 0]
  |1=> [.int .i64 x.n,.int .i64 x.d,.int .i64 0,.int .i64 0]
  | _=> [.int .i64 x.n,.int .i64 x.d,.int .i64 y.n,.int .i64 y.d]))],fun i=>2-i,0,⟨by omega,by omega,by omega⟩,?_,fun i hi=>?_⟩
 ·((conv=>whnf);refine And.intro ?_ ?_;repeat' first|refine lc ?_ ?_|exact la0|exact lr rfl|exact ln0|refine lh1 ?_ ?_|exact lh0|exact bf0|exact bd0|refine bc0 ?_|exact bm0 rfl|exact bg0 rfl|exact li0 rfl|refine lg0 ?_|refine lt0 ?_|fail)
 obtain⟨hi1,hi2,hi3⟩:=hi
 obtain rfl|rfl|rfl:i=0∨i=1∨i=2:=by omega
 ·(refine⟨by kernel_rfl,?_⟩;(conv=>whnf))
  refine ix0 ?_;conv=>whnf
  refine⟨[.map .str .rat es],rto (x,f),ha,?_⟩;conv=>whnf
  refine brI (fun h1=>?_) (fun h1=>?_)
  ·conv=>whnf
   have h1:f≠0:=by simpa using h1
   rw[if_neg h1]
   exact⟨lr rfl,zi0 es⟩
  ·conv=>whnf
   have h1:f=0:=by simpa using h1
   refine⟨⟨by omega,by omega⟩,?_⟩;conv=>whnf
   refine⟨1,⟨by omega,fun _=>h1,by omega⟩,by show 2-1<2-0;omega,?_⟩
   ((conv=>whnf);refine And.intro ?_ ?_;repeat' first|refine lc ?_ ?_|exact la0|exact lr rfl|exact ln0|refine lh1 ?_ ?_|exact lh0|exact bf0|exact bd0|refine bc0 ?_|exact bm0 rfl|exact bg0 rfl|exact li0 rfl|refine lg0 ?_|refine lt0 ?_|fail)
 ·(refine⟨by kernel_rfl,?_⟩;(conv=>whnf))
  have h0:f=0:=hi2 (by omega)
  simp only[if_pos h0]
  refine ix1 ?_;conv=>whnf
  refine⟨[.map .str .rat es],rto (y,g),hb,?_⟩;conv=>whnf
  refine brI (fun h1=>?_) (fun h1=>?_)
  ·conv=>whnf
   have h1:g≠0:=by simpa using h1
   rw[if_neg h1]
   exact⟨lr rfl,zi0 es⟩
  ·conv=>whnf
   have h1:g=0:=by simpa using h1
   refine⟨⟨by omega,by omega⟩,?_⟩;conv=>whnf
   refine⟨2,⟨by omega,fun _=>h0,fun _=>h1⟩,by show 2-2<2-1;omega,?_⟩
   ((conv=>whnf);refine And.intro ?_ ?_;repeat' first|refine lc ?_ ?_|exact la0|exact lr rfl|exact ln0|refine lh1 ?_ ?_|exact lh0|exact bf0|exact bd0|refine bc0 ?_|exact bm0 rfl|exact bg0 rfl|exact li0 rfl|refine lg0 ?_|refine lt0 ?_|fail)
 ·(refine⟨by kernel_rfl,?_⟩;(conv=>whnf))
  have h0:f=0:=hi2 (by omega)
  have h1:g=0:=hi3 rfl
  simp only[if_pos h0,if_pos h1]
  refine⟨⟨by omega,by omega⟩,?_⟩;conv=>whnf
  refine⟨⟨by omega,by omega⟩,?_⟩;conv=>whnf
  refine gZn (f142 x y) ?_;conv=>whnf
  exact⟨lr rfl,zi0 es⟩
theorem qdj (es:zh8) (a b:Ex) (ha:zdl es a) (hb:zdl es b):zdl es (opE 6 0 [a,b]):=by
 unfold zdl at*
 rw[show xcE es (opE 6 0 [a,b])=if(xcE es a).2=0 then(if(xcE es b).2=0 then rDiv (xcE es a).1 (xcE es b).1 else xcE es b)else xcE es a by simp[opE,xcE,xcL,xop]]
 generalize xcE es a=A at ha
 generalize xcE es b=B at hb
 obtain⟨x,f⟩:=A
 obtain⟨y,g⟩:=B
 refine fnT hT hmx Tryz.func99 rfl rfl (ex:= []) ?_;conv=>whnf
 refine⟨Nat,fun i=>i≤2∧(1≤i→f=0)∧(i=2→g=0),fun i=> [(29,.int .i64 i)],fun i=> [(6,.cells (match i with
  |0=> [.int .i64 0,.int .i64 0,.int .i64 0,.int .i64 0]
  |1=> [.int .i64 x.n,.int .i64 x.d,.int .i64 0,.int .i64 0]
  | _=> [.int .i64 x.n,.int .i64 x.d,.int .i64 y.n,.int .i64 y.d]))],fun i=>2-i,0,⟨by omega,by omega,by omega⟩,?_,fun i hi=>?_⟩
 ·((conv=>whnf);refine And.intro ?_ ?_;repeat' first|refine lc ?_ ?_|exact la0|exact lr rfl|exact ln0|refine lh1 ?_ ?_|exact lh0|exact bf0|exact bd0|refine bc0 ?_|exact bm0 rfl|exact bg0 rfl|exact li0 rfl|refine lg0 ?_|refine lt0 ?_|fail)
 obtain⟨hi1,hi2,hi3⟩:=hi
 obtain rfl|rfl|rfl:i=0∨i=1∨i=2:=by omega
 ·(refine⟨by kernel_rfl,?_⟩;(conv=>whnf))
  refine ix0 ?_;conv=>whnf
  refine⟨[.map .str .rat es],rto (x,f),ha,?_⟩;conv=>whnf
  refine brI (fun h1=>?_) (fun h1=>?_)
  ·conv=>whnf
   have h1:f≠0:=by simpa using h1
   rw[if_neg h1]
   exact⟨lr rfl,zi0 es⟩
  ·conv=>whnf
   have h1:f=0:=by simpa using h1
   refine⟨⟨by omega,by omega⟩,?_⟩;conv=>whnf
   refine⟨1,⟨by omega,fun _=>h1,by omega⟩,by show 2-1<2-0;omega,?_⟩
   ((conv=>whnf);refine And.intro ?_ ?_;repeat' first|refine lc ?_ ?_|exact la0|exact lr rfl|exact ln0|refine lh1 ?_ ?_|exact lh0|exact bf0|exact bd0|refine bc0 ?_|exact bm0 rfl|exact bg0 rfl|exact li0 rfl|refine lg0 ?_|refine lt0 ?_|fail)
 ·(refine⟨by kernel_rfl,?_⟩;(conv=>whnf))
  have h0:f=0:=hi2 (by omega)
  simp only[if_pos h0]
  refine ix1 ?_;conv=>whnf
  refine⟨[.map .str .rat es],rto (y,g),hb,?_⟩;conv=>whnf
  refine brI (fun h1=>?_) (fun h1=>?_)
  ·conv=>whnf
   have h1:g≠0:=by simpa using h1
   rw[if_neg h1]
   exact⟨lr rfl,zi0 es⟩
  ·conv=>whnf
   have h1:g=0:=by simpa using h1
   refine⟨⟨by omega,by omega⟩,?_⟩;conv=>whnf
   refine⟨2,⟨by omega,fun _=>h0,fun _=>h1⟩,by show 2-2<2-1;omega,?_⟩
   ((conv=>whnf);refine And.intro ?_ ?_;repeat' first|refine lc ?_ ?_|exact la0|exact lr rfl|exact ln0|refine lh1 ?_ ?_|exact lh0|exact bf0|exact bd0|refine bc0 ?_|exact bm0 rfl|exact bg0 rfl|exact li0 rfl|refine lg0 ?_|refine lt0 ?_|fail)
 ·(refine⟨by kernel_rfl,?_⟩;(conv=>whnf))
  have h0:f=0:=hi2 (by omega)
  have h1:g=0:=hi3 rfl
  simp only[if_pos h0,if_pos h1]
  refine⟨⟨by omega,by omega⟩,?_⟩;conv=>whnf
  refine⟨⟨by omega,by omega⟩,?_⟩;conv=>whnf
  refine gZn (f57 x y) ?_;conv=>whnf
  exact⟨lr rfl,zi0 es⟩
theorem f102 (es:zh8) {e:Ex} (h:VT e) (hr:zee (fun y=>decide (y.k<9)) e=true):zdl es e:=by
 induction h with
 |num r _=>exact zv5 es r
 |var s _=>exact zv3 es s
 |un k a hk _ ih=>
  have hr:(decide (k<9)&&(zee (fun y=>decide (y.k<9)) a&&true))=true:=hr
  simp only[Bool.and_eq_true,decide_eq_true_eq,Bool.and_true]at hr
  obtain rfl:k=7:=by unfold K1 at hk;omega
  exact zv6 es a (ih hr.2)
 |pow n a h1 h2 _ ih=>
  have hr:(decide ((8:Int)<9)&&(zee (fun y=>decide (y.k<9)) a&&true))=true:=hr
  simp only[Bool.and_eq_true,decide_eq_true_eq,Bool.and_true]at hr
  exact zv4 es n h1 h2 a (ih hr.2)
 |bin k a b hk _ _ ih1 ih2=>
  have hr:(decide (k<9)&&(zee (fun y=>decide (y.k<9)) a&&(zee (fun y=>decide (y.k<9)) b&&true)))=true:=hr
  simp only[Bool.and_eq_true,decide_eq_true_eq,Bool.and_true]at hr
  rcases hk with rfl|rfl|rfl|rfl
  ·exact qdm es a b (ih1 hr.2.1) (ih2 hr.2.2)
  ·exact qdl es a b (ih1 hr.2.1) (ih2 hr.2.2)
  ·exact qdk es a b (ih1 hr.2.1) (ih2 hr.2.2)
  ·exact qdj es a b (ih1 hr.2.1) (ih2 hr.2.2)
end Go.Proofs.YtajnlbbgolmklaaGreatDoor

namespace Go.Proofs.YtajnlbbgolmklaaGreatDoor
open Go Go.Sx
end Go.Proofs.YtajnlbbgolmklaaGreatDoor

namespace Go.Proofs.YtajnlbbgolmklaaGreatDoor
open Go Go.Sx
def zma:Go.Shelf.Ren:=⟨fun|190=>92|125=>147|258=>146|128=>228|129=>229|302=>219|303=>220|304=>221|305=>222|306=>223|307=>224|308=>225|309=>226|310=>227|333=>282|329=>283|330=>284|334=>285|335=>286|336=>287|344=>320|n=>n,fun|31=>27|9=>9|3=>3|46=>132|0=>0|51=>122|53=>130|4=>4|183=>191|182=>190|131=>196|5=>5|218=>225|222=>88|228=>248|229=>207|n=>n,fun|n=>n⟩
theorem zst:Go.Proofs.Lays.n190 Tryz.prog zma where
 mixed:=by kernel_rfl
 f125:=Tryz.func147.trans (congrArg some (by kernel_rfl))
 f128:=Tryz.func228.trans (congrArg some (by kernel_rfl))
 f129:=Tryz.func229.trans (congrArg some (by kernel_rfl))
 f190:=Tryz.func92.trans (congrArg some (by kernel_rfl))
 f258:=Tryz.func146.trans (congrArg some (by kernel_rfl))
 f302:=Tryz.func219.trans (congrArg some (by kernel_rfl))
 f303:=Tryz.func220.trans (congrArg some (by kernel_rfl))
 f304:=Tryz.func221.trans (congrArg some (by kernel_rfl))
 f305:=Tryz.func222.trans (congrArg some (by kernel_rfl))
 f306:=Tryz.func223.trans (congrArg some (by kernel_rfl))
 f307:=Tryz.func224.trans (congrArg some (by kernel_rfl))
 f308:=Tryz.func225.trans (congrArg some (by kernel_rfl))
 f309:=Tryz.func226.trans (congrArg some (by kernel_rfl))
 f310:=Tryz.func227.trans (congrArg some (by kernel_rfl))
 f329:=Tryz.func283.trans (congrArg some (by kernel_rfl))
 f330:=Tryz.func284.trans (congrArg some (by kernel_rfl))
 f333:=Tryz.func282.trans (congrArg some (by kernel_rfl))
 f334:=Tryz.func285.trans (congrArg some (by kernel_rfl))
 f335:=Tryz.func286.trans (congrArg some (by kernel_rfl))
 f336:=Tryz.func287.trans (congrArg some (by kernel_rfl))
 f344:=Tryz.func320.trans (congrArg some (by kernel_rfl))
 t0:=Tryz.underlying0
 a0:=Tryz.isAgg0
 z0:=Tryz.sizeOf0
 v0:=Tryz.zeroValue0
 t3:=Tryz.underlying3
 a3:=Tryz.isAgg3
 z3:=Tryz.sizeOf3
 v3:=Tryz.zeroValue3
 t4:=Tryz.underlying4
 a4:=Tryz.isAgg4
 z4:=Tryz.sizeOf4
 v4:=Tryz.zeroValue4
 t5:=Tryz.underlying5
 a5:=Tryz.isAgg5
 z5:=Tryz.sizeOf5
 v5:=Tryz.zeroValue5
 t9:=Tryz.underlying9
 a9:=Tryz.isAgg9
 z9:=Tryz.sizeOf9
 v9:=Tryz.zeroValue9
 t31:=Tryz.underlying27
 a31:=Tryz.isAgg27
 z31:=Tryz.sizeOf27
 v31:=Tryz.zeroValue27
 t46:=Tryz.underlying132
 a46:=Tryz.isAgg132
 z46:=Tryz.sizeOf132
 v46:=Tryz.zeroValue132
 t51:=Tryz.underlying122
 a51:=Tryz.isAgg122
 z51:=Tryz.sizeOf122
 v51:=Tryz.zeroValue122
 t53:=Tryz.underlying130
 a53:=Tryz.isAgg130
 z53:=Tryz.sizeOf130
 v53:=Tryz.zeroValue130
 t131:=Tryz.underlying196
 a131:=Tryz.isAgg196
 z131:=Tryz.sizeOf196
 v131:=Tryz.zeroValue196
 t182:=Tryz.underlying190
 a182:=Tryz.isAgg190
 z182:=Tryz.sizeOf190
 v182:=Tryz.zeroValue190
 t183:=Tryz.underlying191
 a183:=Tryz.isAgg191
 z183:=Tryz.sizeOf191
 v183:=Tryz.zeroValue191
 t218:=Tryz.underlying225
 a218:=Tryz.isAgg225
 z218:=Tryz.sizeOf225
 v218:=Tryz.zeroValue225
 t222:=Tryz.underlying88
 a222:=Tryz.isAgg88
 z222:=Tryz.sizeOf88
 v222:=Tryz.zeroValue88
 t228:=Tryz.underlying248
 a228:=Tryz.isAgg248
 z228:=Tryz.sizeOf248
 v228:=Tryz.zeroValue248
 t229:=Tryz.underlying207
 a229:=Tryz.isAgg207
 z229:=Tryz.sizeOf207
 v229:=Tryz.zeroValue207
def zgx:Go.Shelf.Ren:=⟨fun|194=>93|n=>n,fun|31=>27|9=>9|3=>3|4=>4|0=>0|n=>n,fun|n=>n⟩
theorem zhk:Go.Proofs.Lays.n194 Tryz.prog zgx where
 mixed:=by kernel_rfl
 f194:=Tryz.func93.trans (congrArg some (by kernel_rfl))
 t0:=Tryz.underlying0
 a0:=Tryz.isAgg0
 z0:=Tryz.sizeOf0
 v0:=Tryz.zeroValue0
 t3:=Tryz.underlying3
 a3:=Tryz.isAgg3
 z3:=Tryz.sizeOf3
 v3:=Tryz.zeroValue3
 t4:=Tryz.underlying4
 a4:=Tryz.isAgg4
 z4:=Tryz.sizeOf4
 v4:=Tryz.zeroValue4
 t9:=Tryz.underlying9
 a9:=Tryz.isAgg9
 z9:=Tryz.sizeOf9
 v9:=Tryz.zeroValue9
 t31:=Tryz.underlying27
 a31:=Tryz.isAgg27
 z31:=Tryz.sizeOf27
 v31:=Tryz.zeroValue27
theorem zko (j i:Nat) (B:Blk):hget [(j,B)] i=if j=i then B else .dead :=by
 simp only[hget]
 by_cases h:j=i
 ·subst h;simp
 ·rw[if_neg h]
  have:Nat.beq j i=false:=by
   cases e:Nat.beq j i with
   |false=>rfl
   |true=>exact absurd (Nat.eq_of_beq_eq_true e) h
  rw[this]
section
variable {w w':World} {M:Nat→Prop} {pt:Nat→Option Nat} {ow:Nat→Option Value} {S:Nat→Prop} {j:Nat} {xs:List zd} {h:Value}
theorem zms (hc:Core M pt ow S [(j,.buf 9 .str xs)] w) (i:Nat):pt i=none:=by
 cases e:pt i with
 |none=>rfl
 |some b=>
  have:=hc.dpt i b e
  rw[zko]at this
  split at this<;>cases this
theorem qak (hc:Core M pt ow S [(j,.buf 9 .str xs)] w) {i:Nat} (hi:i≠j):ow i=none:=by
 cases e:ow i with
 |none=>rfl
 |some b=>
  have:=hc.dow i b e
  rw[zko,if_neg (fun h=>hi h.symm)]at this
  cases this
theorem zgb (hc:Core M pt ow S [(j,.buf 9 .str xs)] w) (hj:ow j=some h):bl pt ow j=vbl h:=by
 unfold bl
 rw[zms hc,hj]
 cases h<;>first|rfl|(rename_i ao _ _;cases ao<;>rfl)
theorem zoz (hc:Core M pt ow S [(j,.buf 9 .str xs)] w) (hj:ow j=some h) (hos:w'.os=w.os) (htape:w'.tape=w.tape) (hout:w'.output=w.output) (hsz:w.heap.size≤w'.heap.size)
 (hsame: ∀b,b<w.heap.size→vbl h≠some b→w'.heap[b]? =w.heap[b]?) {ys:List zd} (hb:zao w' (zn w' M) 9 .str ys h):
 Ans w M pt ow S (.tup []) [(j,.buf 9 .str ys)] (.returned (.tuple #[])) w':=by
 refine⟨.tuple #[],M,pt,ow,S,rfl,?_,?_,⟨#[],rfl,trivial⟩,?_⟩
 ·exact {
   fresh:=fun b hb=>Nat.lt_of_lt_of_le (hc.fresh b hb) hsz
   mt:=hc.mt,inj:=hc.inj,gm:=hc.gm,gd:=hc.gd
   dpt:=fun i b e=>by rw[zms hc]at e;cases e
   dow:=fun i x e=>by
    by_cases hi:i=j
    ·subst hi;rw[zko,if_pos rfl];rfl
    ·rw[qak hc hi]at e;cases e
   blk:=fun i=>by
    rw[zko]
    split
    ·rename_i e;subst e;exact⟨h,hj,hb⟩
    ·trivial}
 ·intro i l b cs T hl hb'
  rw[zms hc]at hb';cases hb'
 ·exact {
   os:=hos,tape:=htape,output:=hout,size:=hsz
   same:=fun b hb hn _=>hsame b hb fun e=>hn j (by rw[zgb hc hj];exact e)
   mm:=fun _ h=>h,mn:=fun _ h=> .inl h,sn:=fun _ h=> .inl h,lept:=fun _ _ h=> .inl h,leow:=fun _ _ h=> .inl h}
theorem zoy (hc:Core M pt ow S [(j,.buf 9 .str xs)] w) (hj:ow j=some h) {h':Value} (hv:vbl h'=vbl h∨vbl h'=none) (hsl: ∃a n c,h'= .slice a n c) (hos:w'.os=w.os) (htape:w'.tape=w.tape) (hout:w'.output=w.output)
 (hsz:w.heap.size≤w'.heap.size) (hsame: ∀b,b<w.heap.size→vbl h≠some b→w'.heap[b]? =w.heap[b]?) {ys:List zd} (hb:zao w' (zn w' M) 9 .str ys h') (hj2:j≠2000000):
 Ans w M pt ow S (.own 2000000) [(j,.dead),(2000000,.buf 9 .str ys)] (.returned h') w':=by
 let ow':Nat→Option Value:=fun i=>if i=2000000 then some h' else none
 have hbl: ∀i b,bl (fun _=>none) ow' i=some b→i=2000000∧vbl h=some b:=fun i b e=>by
  by_cases hi:i=2000000
  ·refine⟨hi,?_⟩
   subst hi
   have e2:vbl h'=some b:=by
    simp only[bl,ow',if_true]at e
    obtain⟨a,n,c,rfl⟩:=hsl
    cases a<;>exact e
   rcases hv with h1|h1
   ·rw[←h1];exact e2
   ·rw[h1]at e2;cases e2
  ·simp only[bl,ow',if_neg hi]at e;cases e
 have hget2: ∀i,hget [(j,.dead),(2000000,.buf 9 .str ys)] i=if 2000000=i then .buf 9 .str ys else .dead :=fun i=>by
  rw[←zko]
  show(match Nat.beq j i with|true=>Blk.dead|false=>hget [(2000000,Blk.buf 9 .str ys)] i)=_
  cases e:Nat.beq j i with
  |false=>rfl
  |true=>
   have:=Nat.eq_of_beq_eq_true e
   subst this
   rw[zko,if_neg fun h=>hj2 h.symm]
 refine⟨h',M,fun _=>none,ow',S,rfl,?_,?_,?_,?_⟩
 ·exact {
   fresh:=fun b hb=>Nat.lt_of_lt_of_le (hc.fresh b hb) hsz
   mt:=fun i b e=>hc.mt j b (by rw[zgb hc hj];exact(hbl i b e).2)
   inj:=fun i k b e1 e2=>by rw[(hbl i b e1).1,(hbl k b e2).1]
   gm:=hc.gm
   gd:=fun i b e=>hc.gd j b (by rw[zgb hc hj];exact(hbl i b e).2)
   dpt:=fun i b e=>by cases e
   dow:=fun i x e=>by
    by_cases hi:i=2000000
    ·subst hi;rw[hget2,if_pos rfl];rfl
    ·simp only[ow',if_neg hi]at e;cases e
   blk:=fun i=>by
    rw[hget2]
    split
    ·rename_i e;subst e;exact⟨h',by simp[ow'],hb⟩
    ·trivial}
 ·intro i l b cs T hl hb'
  cases hb'
 ·refine⟨hsl,fun x hx=>?_⟩
  have:some h'=some x:=by simpa[ow']using hx
  exact Option.some.inj this
 ·exact {
   os:=hos,tape:=htape,output:=hout,size:=hsz
   same:=fun b hb hn _=>hsame b hb fun e=>hn j (by rw[zgb hc hj];exact e)
   mm:=fun _ h=>h,mn:=fun _ h=> .inl h,sn:=fun _ h=> .inl h,lept:=fun _ _ h=>by cases h
   leow:=fun i x hx=>by
    by_cases hi:i=2000000
    ·have hx2:h'=x:=by
      have:ow' i=some h':=by simp[ow',hi]
      rw[this]at hx;exact Option.some.inj hx
     subst hx2
     refine .inr ⟨fun b hb=> .inr ⟨j,?_⟩,by omega⟩
     rw[zgb hc hj]
     rcases hv with h1|h1
     ·rw[←h1];exact hb
     ·rw[h1]at hb;cases hb
    ·simp only[ow',if_neg hi]at hx;cases hx}
end
theorem zrk {w:World} {b cap:Nat} {cs:Array Value} (hb:w.heap[b]? =some (.cells cs 9 (0,0))) (hcs:cs.size=cap) (d:List zd) (hd:d.length≤cap) (n:Nat) (os:Array Obj) {w':World}
 (hw:w'=Go.Sort.grow (Go.Sort.putRow Go.Proofs.encStr (Go.Sort.ahead w n) b 0 d.toArray) os):
 w'.os=w.os∧w'.tape=w.tape∧w'.output=w.output∧w.heap.size≤w'.heap.size∧(∀c,c<w.heap.size→c≠b→w'.heap[c]? =w.heap[c]?)∧
  ∃cs':Array Value,w'.heap[b]? =some (.cells cs' 9 (0,0))∧cs'.size=cap∧ ∀(i:Nat) x,d[i]? =some x→cs'[i]? =some (.string ⟨x.toArray⟩):=by
 subst hw
 have hlt:b<w.heap.size:=zf hb
 refine⟨rfl,rfl,rfl,?_,fun c hc hne=>?_,Go.Sort.putCells Go.Proofs.encStr 0 d.toArray cs,?_,?_,fun i x hx=>?_⟩
 ·simp[Go.Sort.grow,Go.Sort.putRow,Go.Sort.mapBlock,Go.Sort.ahead]
 ·simp only[Go.Sort.grow,Go.Sort.putRow,Go.Sort.mapBlock,Go.Sort.ahead]
  rw[Array.getElem?_append_left (by simpa using hc),Array.getElem?_modify,if_neg (fun h=>hne h.symm)]
 ·simp only[Go.Sort.grow,Go.Sort.putRow,Go.Sort.mapBlock,Go.Sort.ahead]
  rw[Array.getElem?_append_left (by simpa using hlt),Array.getElem?_modify,if_pos rfl,hb]
  rfl
 ·simp[Go.Sort.putCells,hcs]
 ·have hi:i<d.length:=(List.getElem?_eq_some_iff.1 hx).1
  have hxe:d[i]=x:=(List.getElem?_eq_some_iff.1 hx).2
  have hic:i<cs.size:=by omega
  simp only[Go.Sort.putCells]
  rw[Array.getElem?_mapIdx,Array.getElem?_eq_getElem hic]
  simp only[Option.map_some]
  rw[if_pos (by simp;omega)]
  simp[hi,hxe]
theorem zov {w':World} {V:jw} {b cap:Nat} {cs':Array Value} {d ys:List zd} (h1:w'.heap[b]? =some (.cells cs' 9 (0,0))) (h2:cs'.size=cap) (h3: ∀(i:Nat) x,d[i]? =some x→cs'[i]? =some (.string ⟨x.toArray⟩))
 (hy: ∀(i:Nat) x,ys[i]? =some x→d[i]? =some x) (hl:ys.length≤cap) (hm:cap≤maxLen):zao w' V 9 .str ys (.slice (some ⟨b,0,none⟩) ys.length cap):=by
 refine .inr ⟨b,cap,cs',rfl,h1,hl,hm,by rw[h2];simp[Elt.size],fun i x hx k u hu=>?_⟩
 match k,hu with
 |0,hu=>
  obtain rfl: .str x=u:=by simpa[Elt.cells]using hu
  refine⟨.string ⟨x.toArray⟩,?_,.str x⟩
  have:=h3 i x (hy i x hx)
  simpa[Elt.size]using this
 |k+1,hu=>simp[Elt.cells]at hu
theorem zn6 {w:World} {V:jw} {b:Nat} {cs:Array Value} {xs:List zd} (hb:w.heap[b]? =some (.cells cs 9 (0,0)))
 (hx: ∀(i:Nat) (x:zd),xs[i]? =some x→ ∀(j:Nat) (u:AV),(Elt.str.cells x)[j]? =some u→ ∃v,cs[i*Elt.str.size+j]? =some v∧Leaf V u v):Go.Sort.Holds Go.Proofs.encStr w b 0 xs.toArray:=by
 intro i hi
 have hi:i<xs.length:=by simpa using hi
 have hg:xs[i]? =some xs[i]:=List.getElem?_eq_getElem hi
 obtain⟨v,h1,h2⟩:=hx i xs[i] hg 0 (.str xs[i]) rfl
 cases h2
 have h1:cs[i]? =some (.string ⟨xs[i].toArray⟩):=by simpa[Elt.size]using h1
 constructor
 ·unfold World.cell?
  simp only[hb,Nat.zero_add]
  simp[h1,hi]
 ·unfold World.frozen?
  simp only[hb]
  simp
theorem zqm (d:Array zd): ∀m,(Go.Lib.compactUpTo d m).length ≤m
 |0=>by simp[Go.Lib.compactUpTo]
 |m+1=>by
  rw[Go.Lib.compactUpTo_succ,List.length_append]
  have:=zqm d m
  split<;>simp<;>omega
theorem zdz (xs:List zd):(Go.Lib.compact xs).length ≤xs.length:=zqm _ _
theorem zny (d:Array zd) (x:zd): ∀m,x∈Go.Lib.compactUpTo d m↔ ∃j,j<m∧d[j]! =x
 |0=>by simp[Go.Lib.compactUpTo]
 |m+1=>by
  rw[Go.Lib.compactUpTo_succ,List.mem_append,zny d x m]
  constructor
  ·rintro(⟨j,h1,h2⟩|h)
   ·exact⟨j,by omega,h2⟩
   ·split at h
    ·simp only[List.mem_singleton]at h;exact⟨m,by omega,h.symm⟩
    ·simp at h
  ·rintro⟨j,h1,h2⟩
   rcases Nat.lt_or_ge j m with h3|h3
   ·exact .inl ⟨j,h3,h2⟩
   ·obtain rfl:j=m:=by omega
    by_cases hk:Go.Lib.keeps d j=true
    ·exact .inr (by rw[if_pos hk];simp[h2])
    ·refine .inl ⟨j-1,?_⟩
     have hj:0<j:=by
      rcases Nat.eq_zero_or_pos j with h0|h0
      ·subst h0;exact absurd (by simp[Go.Lib.keeps]) hk
      ·exact h0
     refine⟨by omega,?_⟩
     by_cases he:d[j]! =d[j-1]!
     ·rw[←he];exact h2
     ·exact absurd (Go.Lib.keeps_pos he) hk
theorem zl2 (xs:List zd) (x:zd):x∈Go.Lib.compact xs↔x∈xs:=by
 unfold Go.Lib.compact
 rw[zny]
 constructor
 ·rintro⟨j,h1,h2⟩
  rw[←h2]
  simp[h1]
 ·intro h
  obtain⟨j,h1,h2⟩:=List.getElem_of_mem h
  exact⟨j,h1,by simp[h1,h2]⟩
def zll (xs:List zd):List zd:=xs.mergeSort fun x y=>decide (x≤y)
theorem qdt:Ent Tryz.prog 92:=⟨Tryz.f92,Tryz.func92,by kernel_rfl,by kernel_rfl⟩
theorem qds:Ent Tryz.prog 93:=⟨Tryz.f93,Tryz.func93,by kernel_rfl,by kernel_rfl⟩
theorem f136 (j:Nat) (xs:List zd) (hx:xs.length<4611686018427387904):ze9 Tryz.prog 92 [(j,.buf 9 .str xs)] [.own j] (.tup []) [(j,.buf 9 .str (zll xs))]:=by
 refine⟨qdt,fun w M pt ow S vs hc _ ha=>?_⟩
 match vs,ha with
 | [v],⟨⟨_,hv⟩,_⟩=>
   have hbj:=hc.blk j
   rw[zko,if_pos rfl]at hbj
   obtain⟨h,hj,hb⟩:=hbj
   obtain rfl:v=h:=hv h hj
   have none:xs= []→ ∀p cap,v= .slice p 0 cap→Calls Tryz.prog 92 #[v] w (Ans w M pt ow S (.tup []) [(j,.buf 9 .str (zll xs))]):=fun hx0 p cap hp=>by
    have e:zll xs=xs:=by subst hx0;simp[zll]
    rw[e,hp]
    refine(Go.Proofs.Any.slices_Sort_string_none zst p cap w).mono ?_
    rintro e w' ⟨rfl,rfl⟩
    exact zoz hc hj rfl rfl rfl (Nat.le_refl _) (fun _ _ _=>rfl) hb
   rcases hb with ⟨h1,h2⟩|⟨b,cap,cs,h1,h2,h3,h4,h5,h6⟩
   ·exact none h2 _ _ h1
   ·by_cases hx0:xs= []
    ·exact none hx0 _ _ (by rw[h1,hx0];rfl)
    ·have hlt:=zf h2
     have hcs:cs.size=cap:=by rw[h5];simp[Elt.size]
     subst h1
     refine(Go.Proofs.Any.slices_Sort_string zst b 0 cap xs w (zn6 h2 h6) hlt hx).mono ?_
     rintro e w' ⟨rfl,n,os,hw⟩
     have hl:(zll xs).length =xs.length:=List.length_mergeSort _
     obtain⟨g1,g2,g3,g4,g5,cs',g6,g7,g8⟩:=zrk h2 hcs (zll xs) (by omega) n os hw
     have hbuf:=zov (V:=zn w' M) (ys:=zll xs) g6 g7 g8 (fun _ _ h=>h) (by omega) h4
     rw[hl]at hbuf
     exact zoz hc hj g1 g2 g3 g4 (fun c hc' hne=>g5 c hc' fun e=>hne (by rw[e];rfl)) hbuf
theorem f137 (j:Nat) (hj2:j≤999999) (xs:List zd):ze9 Tryz.prog 93 [(j,.buf 9 .str xs)] [.own j] (.own 2000000) [(j,.dead),(2000000,.buf 9 .str (Go.Lib.compact xs))]:=by
 refine⟨qds,fun w M pt ow S vs hc _ ha=>?_⟩
 match vs,ha with
 | [v],⟨⟨_,hv⟩,_⟩=>
   have hbj:=hc.blk j
   rw[zko,if_pos rfl]at hbj
   obtain⟨h,hj,hb⟩:=hbj
   obtain rfl:v=h:=hv h hj
   have none:xs= []→ ∀p cap,v= .slice p 0 cap→Calls Tryz.prog 93 #[v] w (Ans w M pt ow S (.own 2000000) [(j,.dead),(2000000,.buf 9 .str (Go.Lib.compact xs))]):=fun hx0 p cap hp=>by
    have e:Go.Lib.compact xs=xs:=by subst hx0;rfl
    rw[e,hp]
    refine(Go.Proofs.Any.slices_Compact_string_empty zhk p cap w).mono ?_
    rintro e w' ⟨rfl,rfl⟩
    rw[←hp]
    exact zoy hc hj (.inl rfl) ⟨_,_,_,hp⟩ rfl rfl rfl (Nat.le_refl _) (fun _ _ _=>rfl) hb (by omega)
   rcases hb with ⟨h1,h2⟩|⟨b,cap,cs,h1,h2,h3,h4,h5,h6⟩
   ·exact none h2 _ _ h1
   ·by_cases hx0:xs= []
    ·exact none hx0 _ _ (by rw[h1,hx0];rfl)
    ·have hlt:=zf h2
     have hcs:cs.size=cap:=by rw[h5];simp[Elt.size]
     have hm:maxLen=9223372036854775807:=by decide
     subst h1
     refine(Go.Proofs.Any.slices_Compact_string zhk b 0 cap xs w (zn6 h2 h6) (by omega) h3).mono ?_
     rintro e w' ⟨rfl,n,hw⟩
     have hl:(Go.Lib.compact xs).length ≤xs.length:=zdz xs
     have hw2:w'=Go.Sort.grow (Go.Sort.putRow Go.Proofs.encStr (Go.Sort.ahead w n) b 0 (Go.Lib.compact xs++List.replicate (xs.length-(Go.Lib.compact xs).length) []).toArray) #[]:=by rw[hw];simp
     obtain⟨g1,g2,g3,g4,g5,cs',g6,g7,g8⟩:=zrk h2 hcs _ (by simp;omega) n #[] hw2
     have hbuf:=zov (V:=zn w' M) (ys:=Go.Lib.compact xs) g6 g7 g8 (fun i x h=>by rw[List.getElem?_append_left (List.getElem?_eq_some_iff.1 h).1];exact h) (by omega) h4
     exact zoy hc hj (h':= .slice (some ⟨b,0,Option.none⟩) (Go.Lib.compact xs).length cap) (.inl rfl) ⟨_,_,_,rfl⟩ g1 g2 g3 g4 (fun c hc' hne=>g5 c hc' fun e=>hne (by rw[e];rfl)) hbuf (by omega)
end Go.Proofs.YtajnlbbgolmklaaGreatDoor

namespace Go.Proofs.YtajnlbbgolmklaaGreatDoor
open Go Go.Sx
set_option maxRecDepth 100000
set_option maxHeartbeats 8000000
def zfr:List Ex→List zd
 | []=> []
 |y::l=>if y.k=2 then y.s::zfr l else zfr l
theorem znr (l m:List Ex):zfr (l++m)=zfr l++zfr m:=by
 induction l with
 |nil=>rfl
 |cons y l ih=>simp only[List.cons_append,zfr,ih];split<;>rfl
theorem zey (l:List Ex):(zfr l).length ≤l.length:=by
 induction l with
 |nil=>exact Nat.le_refl _
 |cons y l ih=>simp only[zfr];split<;>simp<;>omega
def nmE (e:Ex):List zd:=Go.Lib.compact (zll (zfr (zgq e)))
noncomputable def zxt:Code:=Tryz.f39.body.getD .skip
theorem f91 (e:Ex) (he:Sm e):Fn 39 [] [.agg (exC e)] (.sl .str (nmE e)) []:=by
 refine wk (code:=zxt) hT hmx Tryz.func39 rfl rfl (ex:= []) ?_;conv=>whnf
 refine uk hT hmx 2 (fun _:Unit=>⟨[.any,.ptr 1 0,.any,.ptr 3 0]++zgj 16,[(1,.cells (exC e)),(3,.cells [.nilsl]),(6,.free),(19,.free)]⟩) (fun _=>by kernel_rfl) ?_ (fun _=>?_)
 ·conv=>whnf
  refine⟨(),?_⟩
  ((conv=>whnf);refine And.intro ?_ ?_;repeat' first|refine lc ?_ ?_|exact la0|exact lr rfl|exact ln0|refine lh1 ?_ ?_|exact lh0|exact bf0|exact bd0|refine bc0 ?_|exact bm0 rfl|exact bg0 rfl|exact li0 rfl|refine lg0 ?_|refine lt0 ?_|fail)
 refine zyy 15 (by kernel_rfl) ?_
 show SemOK Tryz.prog T Tryz.f39.results.toList [] (.sl .str (nmE e)) [] (zmp 2 zxt) ⟨[.any,.ptr 1 0,.any,.ptr 3 0]++zgj 16,[(1,.cells (exC e)),(3,.cells [.nilsl]),(6,.free),(19,.free),(15,.free)]⟩
 refine zph hT hmx ⟨[.any,.ptr 1 0,.any,.ptr 3 0,.any,.any,.fn 143 [.ptr 6 0]]++zgj 13,[(1,.cells (exC e)),(3,.cells [.own 15]),(6,.cells (exC e)),(19,.free),(15,.buf 9 .str [])]⟩ (by kernel_rfl) ?_ (g:=143) (caps:= [.ptr 6 0]) rfl
  (i0:=3) (k0:=15) (bi:=1000003) (ob:=1400000) (e:=9) (k:= .str) (X:=List Ex) (Y:=Ex) (xs:=fun s=>zfr s) (args:=fun y=> [.agg (exC y)]) (next:=fun s y=>s++ [y]) (x₀:= []) (xE:=zgq e) (r:= .tup []) (ib:= [.cells (exC e)]) rfl rfl rfl (by kernel_rfl) (fun _=>rfl) (fun s=>s.length<1000) ?_ ?_ ?_
 ·conv=>whnf
  refine⟨[],[.cells (exC e)],.fn 143 [.ptr 2000000 0],f71 e,?_⟩;conv=>whnf
  ((conv=>whnf);refine And.intro ?_ ?_;repeat' first|refine lc ?_ ?_|exact la0|exact lr rfl|exact ln0|refine lh1 ?_ ?_|exact lh0|exact bf0|exact bd0|refine bc0 ?_|exact bm0 rfl|exact bg0 rfl|exact li0 rfl|refine lg0 ?_|refine lt0 ?_|fail)
  ·exact trivial
  ·exact zss rfl rfl
 ·intro l J h
  exact(f126 l J (fun s y hs=>h s y hs) e he).sw [(6,1000001)] rfl
 ·intro x y hx
  by_cases hy:y.k=2
  ·refine⟨1500015,by decide,?_⟩;conv=>whnf
   refine brI (fun _=>?_) (fun h=>absurd hy (by simpa using h))
   conv=>whnf
   refine⟨?_,?_⟩
   ·have:=zey x
    simp only[List.length_cons,List.length_nil];omega
   conv=>whnf
   refine⟨?_⟩
   refine lh1 (bc0 (lc (lr rfl) ln0)) (lh1 (bb0 ?_) lh0)
   rw[znr];simp[zfr,hy]
  ·refine⟨1400000,by decide,?_⟩;conv=>whnf
   refine brI (fun h=>absurd (by simpa using h) hy) (fun _=>?_)
   conv=>whnf
   refine⟨?_⟩
   refine lh1 (bc0 (lc (lr rfl) ln0)) (lh1 (bb0 ?_) lh0)
   rw[znr];simp[zfr,hy]
 ·refine uj hT hmx ?_;conv=>whnf
  refine⟨[.buf 9 .str (zll (zfr (zgq e)))],_,f136 15 _ ?_,?_⟩
  ·have h1:=zey (zgq e)
   have h2:=zh9 e
   have h3:=zqv e
   omega
  conv=>whnf
  refine⟨[.dead],[.buf 9 .str (Go.Lib.compact (zll (zfr (zgq e))))],.own 2000000,f137 15 (by omega) _,?_⟩;conv=>whnf
  exact⟨ji rfl,lh0⟩
end Go.Proofs.YtajnlbbgolmklaaGreatDoor

namespace Go.Proofs.YtajnlbbgolmklaaGreatDoor
open Go Go.Sx
set_option maxRecDepth 100000
set_option maxHeartbeats 8000000
def zkz:List zd→List Rt→zh8→zh8
 |n::ns,r::rs,es=>zkz ns rs (zak .str n r es)
 | _,_,es=>es
theorem zz6 (ns:List zd) (rs:List Rt) (h: ¬(ns.length=rs.length∧ns.length≤200)) (h1:ns.length<9223372036854775808) (h2:rs.length<9223372036854775808):
 Fn 96 [] [.sl .str ns,.sl .rat rs] (.tup [.any,.bool false]) [(2000000,.dead)]:=by
 refine fnT hT hmx Tryz.func96 rfl rfl (ex:= [21]) ?_;conv=>whnf
 refine brI (fun h3=>?_) (fun h3=>?_)
 ·conv=>whnf
  exact⟨lt0 (lc la0 (lc (lr rfl) ln0)),lh1 bd0 lh0⟩
 ·conv=>whnf
  refine brI (fun h4=>?_) (fun h4=>?_)
  ·conv=>whnf
   exact⟨lt0 (lc la0 (lc (lr rfl) ln0)),lh1 bd0 lh0⟩
  ·refine absurd ⟨?_,?_⟩ h
   ·have h3:((ns.length:Int) != (rs.length:Int))=false:=h3
    simp only[bne_eq_false_iff_eq]at h3;omega
   ·simp only[decide_eq_false_iff_not]at h4;omega
theorem ztg {ns:List zd} {rs:List Rt} {i:Nat} {n:zd} {r:Rt} (es:zh8) (h1:ns[i]? =some n) (h2:rs[i]? =some r):zkz (ns.drop i) (rs.drop i) es=zkz (ns.drop (i+1)) (rs.drop (i+1)) (zak .str n r es):=by
 rw[ql h1,ql h2];rfl
theorem znv (n:zd) (r:Rt): ∀es:zh8,(zak .str n r es).length ≤es.length+1
 | []=>by simp[zak]
 |(y,v)::l=>by
  have:=znv n r l
  simp only[zak]
  cases zhl .str n y
  ·simp only[cond_false,List.length_cons];omega
  ·simp only[cond_true,List.length_cons];omega
theorem f100 (ns:List zd) (rs:List Rt) (h:ns.length=rs.length∧ns.length≤200):
 Fn 96 [] [.sl .str ns,.sl .rat rs] (.tup [.mp 2000000,.bool (decide ((zkz ns rs []).length =rs.length))]) [(2000000,.map .str .rat (zkz ns rs []))]:=by
 refine fnT hT hmx Tryz.func96 rfl rfl (ex:= [21]) ?_;conv=>whnf
 refine brI (fun h0=>?_) (fun h0=>?_)
 ·have h0:((ns.length:Int) != (rs.length:Int))=true:=h0
  refine absurd h.1 (fun e=>?_)
  rw[e]at h0;simp at h0
 conv=>whnf
 refine brI (fun h0=>absurd h.2 (by simp only[decide_eq_true_eq]at h0;omega)) (fun _=>?_)
 conv=>whnf
 refine⟨Nat×zh8,fun x=>x.1≤ns.length∧zkz (ns.drop x.1) (rs.drop x.1) x.2=zkz ns rs []∧x.2.length≤x.1,fun x=> [(24,.int .i64 x.1)],fun x=> [(21,.map .str .rat x.2)],fun x=>ns.length-x.1,(0,[]),⟨by simp,rfl,by simp⟩,?_,fun x hx=>?_⟩
 ·((conv=>whnf);refine And.intro ?_ ?_;repeat' first|refine lc ?_ ?_|exact la0|exact lr rfl|exact ln0|refine lh1 ?_ ?_|exact lh0|exact bf0|exact bd0|refine bc0 ?_|exact bm0 rfl|exact bg0 rfl|exact li0 rfl|refine lg0 ?_|refine lt0 ?_|fail)
 (refine⟨by kernel_rfl,?_⟩;(conv=>whnf))
 obtain⟨i,es⟩:=x
 obtain⟨hx1,hx2,hx3⟩:=hx
 simp only at hx1 hx2 hx3
 refine brI (fun h3=>?_) (fun h3=>?_)
 ·conv=>whnf
  have h3:i<ns.length:=by simp only[decide_eq_true_eq]at h3;omega
  refine⟨⟨by omega,by omega⟩,fun n hn=>?_⟩
  have hn:ns[i]? =some n:=by simpa using hn
  conv=>whnf
  refine⟨⟨by omega,by simp only;omega⟩,fun r hr=>?_⟩
  have hr:rs[i]? =some r:=by simpa using hr
  rw[ztg es hn hr]at hx2
  conv=>whnf
  refine⟨(i+1,zak .str n r es),⟨by simp only;omega,hx2,by have:=znv n r es;simp only;omega⟩,by show ns.length-(i+1)<ns.length-i;omega,?_⟩
  ((conv=>whnf);refine And.intro ?_ ?_;repeat' first|refine lc ?_ ?_|exact la0|exact lr rfl|exact ln0|refine lh1 ?_ ?_|exact lh0|exact bf0|exact bd0|refine bc0 ?_|exact bm0 rfl|exact bg0 rfl|exact li0 rfl|refine lg0 ?_|refine lt0 ?_|fail)
  exact ai0 (by rw[wI (by simp only;omega)];simp only;omega)
 ·conv=>whnf
  have h3: ¬i<ns.length:=by simp only[decide_eq_false_iff_not]at h3;omega
  rw[List.drop_of_length_le (by omega),List.drop_of_length_le (by omega)]at hx2
  have hx2:es=zkz ns rs []:=hx2
  rw[←hx2]
  refine⟨lt0 (lc (lr rfl) (lc (ab0 ?_) ln0)),lh1 (bm0 rfl) lh0⟩
  rw[Bool.eq_iff_iff,decide_eq_true_eq]
  constructor
  ·intro h;have h:((es.length:Int)==(rs.length:Int))=true:=h;simp only[beq_iff_eq]at h;omega
  ·intro h;show((es.length:Int)==(rs.length:Int))=true;simp only[beq_iff_eq];omega
end Go.Proofs.YtajnlbbgolmklaaGreatDoor

namespace Go.Proofs.YtajnlbbgolmklaaGreatDoor
open Go Go.Sx
theorem zvo {l:List Ex} {s:zd}:s∈zfr l↔ ∃y∈l,y.k=2∧y.s=s:=by
 induction l with
 |nil=>simp[zfr]
 |cons y l ih=>
  simp only[zfr]
  split
  ·rename_i h
   simp only[List.mem_cons,ih]
   constructor
   ·rintro(h1|⟨z,h1,h2⟩)
    ·exact⟨y,.inl rfl,h,h1.symm⟩
    ·exact⟨z,.inr h1,h2⟩
   ·rintro⟨z,rfl|h1,h2,h3⟩
    ·exact .inl h3.symm
    ·exact .inr ⟨z,h1,h2,h3⟩
  ·rename_i h
   simp only[List.mem_cons,ih]
   constructor
   ·rintro⟨z,h1,h2⟩;exact⟨z,.inr h1,h2⟩
   ·rintro⟨z,rfl|h1,h2,h3⟩
    ·exact absurd h2 h
    ·exact⟨z,h1,h2,h3⟩
theorem zl1 {e:Ex} (h:okT e=true) {s:zd}:s∈nmE e↔ ∃y∈um e,y.k=2∧y.s=s:=by
 unfold nmE
 rw[zl2]
 unfold zll
 rw[List.mem_mergeSort,zvo]
 simp[zgq,h]
end Go.Proofs.YtajnlbbgolmklaaGreatDoor

namespace Go.Proofs.YtajnlbbgolmklaaGreatDoor
open Go Go.Sx
set_option maxRecDepth 100000
set_option maxHeartbeats 8000000
def zuj (es:zh8) (n:zd):Bool:=zcp .str n es
def exF (e:Ex) (ns:List zd) (rs:List Rt):Rt×Int:=
 if(ns.length=rs.length∧ns.length≤200)∧(zkz ns rs []).length =rs.length∧zy3 e=true∧rs.all rOk=true∧(nmE e).all (zuj (zkz ns rs []))=true then
  (if(xcE (zkz ns rs []) e).2=0 then xcE (zkz ns rs []) e else(⟨0,0⟩,(xcE (zkz ns rs []) e).2))else(⟨0,0⟩,1)
theorem zrq {e:Ex} (h:zy3 e=true):okT e=true∧zee (fun y=>decide (y.k<9)) e=true:=by
 unfold zy3 at h;simpa using h
theorem f51 (e:Ex) (ns:List zd) (rs:List Rt) (he:Sm e) (h1:ns.length<9223372036854775808) (h2:rs.length<9223372036854775808):
 Fn 41 [] [.agg (exC e),.sl .str ns,.sl .rat rs] (rto (exF e ns rs)) []:=by
 obtain⟨A,hA⟩: ∃A,exF e ns rs=A:=⟨_,rfl⟩
 rw[hA]
 refine fnT hT hmx Tryz.func41 rfl rfl (ex:= []) ?_;conv=>whnf
 by_cases h:ns.length=rs.length∧ns.length≤200
 rotate_left
 ·have hA:A=(⟨0,0⟩,1):=by rw[←hA,exF,if_neg fun hh=>h hh.1]
  subst hA
  refine⟨[],[.dead],.tup [.any,.bool false],zz6 ns rs h h1 h2,?_⟩;conv=>whnf
  exact⟨lr rfl,lh0⟩
 have h100:=f100 ns rs h
 obtain⟨es,hes⟩: ∃es,es=zkz ns rs []:=⟨_,rfl⟩
 rw[←hes]at h100
 unfold exF at hA
 rw[←hes]at hA
 cases hd:decide (es.length=rs.length)with
 |false=>
  rw[hd]at h100
  have hA:A=(⟨0,0⟩,1):=by rw[←hA,if_neg fun hh=>by simp at hd;exact hd hh.2.1]
  subst hA
  refine⟨[],[.map .str .rat es],.tup [.mp 2000000,.bool false],h100,?_⟩;conv=>whnf
  exact⟨lr rfl,lh0⟩
 |true=>
  rw[hd]at h100
  have hd:es.length=rs.length:=by simpa using hd
  refine⟨[],[.map .str .rat es],.tup [.mp 2000000,.bool true],h100,?_⟩;conv=>whnf
  refine cbI [] (zy3 e) (f101 e he) (fun h3=>?_) (fun h3=>?_)
  rotate_left
  ·have hA:A=(⟨0,0⟩,1):=by rw[←hA,if_neg fun hh=>by rw[h3]at hh;cases hh.2.2.1]
   subst hA
   conv=>whnf
   exact⟨lr rfl,lh0⟩
  conv=>whnf
  refine⟨Nat,fun i=>i≤rs.length∧(rs.drop i).all rOk=rs.all rOk,fun i=> [(34,.int .i64 i)],fun _=> [],fun i=>rs.length-i,0,⟨by simp,rfl⟩,?_,fun i hi=>?_⟩
  ·((conv=>whnf);refine And.intro ?_ ?_;repeat' first|refine lc ?_ ?_|exact la0|exact lr rfl|exact ln0|refine lh1 ?_ ?_|exact lh0|exact bf0|exact bd0|refine bc0 ?_|exact bm0 rfl|exact bg0 rfl|exact li0 rfl|refine lg0 ?_|refine lt0 ?_|fail)
  (refine⟨by kernel_rfl,?_⟩;(conv=>whnf))
  obtain⟨hi1,hi2⟩:=hi
  refine brI (fun h4=>?_) (fun h4=>?_)
  ·conv=>whnf
   have h4:i<rs.length:=by simp only[decide_eq_true_eq]at h4;omega
   refine⟨⟨by omega,by omega⟩,fun r hr=>?_⟩
   have hr:rs[i]? =some r:=by simpa using hr
   rw[ql hr]at hi2
   simp only[List.all_cons]at hi2
   conv=>whnf
   refine cbI [] (rOk r) (f54 r.n r.d) (fun h5=>?_) (fun h5=>?_)
   ·conv=>whnf
    rw[h5]at hi2
    refine⟨i+1,⟨by omega,by simpa using hi2⟩,by show rs.length-(i+1)<rs.length-i;omega,?_⟩
    ((conv=>whnf);refine And.intro ?_ ?_;repeat' first|refine lc ?_ ?_|exact la0|exact lr rfl|exact ln0|refine lh1 ?_ ?_|exact lh0|exact bf0|exact bd0|refine bc0 ?_|exact bm0 rfl|exact bg0 rfl|exact li0 rfl|refine lg0 ?_|refine lt0 ?_|fail)
    exact ai0 (by rw[wI (by omega)];omega)
   ·conv=>whnf
    rw[h5]at hi2
    have hA:A=(⟨0,0⟩,1):=by rw[←hA,if_neg fun hh=>by rw[←hi2]at hh;simp at hh]
    subst hA
    exact⟨lr rfl,lh0⟩
  have h4: ¬i<rs.length:=by simp only[decide_eq_false_iff_not]at h4;omega
  have hok:rs.all rOk=true:=by rw[←hi2,List.drop_of_length_le (by omega)];rfl
  clear hi1 hi2 h4
  conv=>whnf
  have h91:=f91 e he
  have hnl:(nmE e).length ≤1000:=by
   have g1:=zdz (zll (zfr (zgq e)))
   have g2:(zll (zfr (zgq e))).length =(zfr (zgq e)).length :=List.length_mergeSort _
   have g3:=zey (zgq e)
   have g4:=zh9 e
   have g5:=zqv e
   unfold nmE;omega
  generalize nmE e=nm at h91 hA hnl
  refine gZn h91 ?_;conv=>whnf
  refine⟨Nat,fun i=>i≤nm.length∧(nm.drop i).all (zuj es)=nm.all (zuj es),fun i=> [(46,.int .i64 i)],fun _=> [],fun i=>nm.length-i,0,⟨by simp,rfl⟩,?_,fun i hi=>?_⟩
  ·((conv=>whnf);refine And.intro ?_ ?_;repeat' first|refine lc ?_ ?_|exact la0|exact lr rfl|exact ln0|refine lh1 ?_ ?_|exact lh0|exact bf0|exact bd0|refine bc0 ?_|exact bm0 rfl|exact bg0 rfl|exact li0 rfl|refine lg0 ?_|refine lt0 ?_|fail)
  (refine⟨by kernel_rfl,?_⟩;(conv=>whnf))
  obtain⟨hi1,hi2⟩:=hi
  refine brI (fun h4=>?_) (fun h4=>?_)
  ·conv=>whnf
   have h4:i<nm.length:=by simp only[decide_eq_true_eq]at h4;omega
   refine⟨⟨by omega,by omega⟩,fun n hn=>?_⟩
   have hn:nm[i]? =some n:=by simpa using hn
   rw[ql hn]at hi2
   simp only[List.all_cons]at hi2
   conv=>whnf
   refine brI (fun h5=>?_) (fun h5=>?_)
   ·conv=>whnf
    have h5:zuj es n=false:=by simpa[zuj]using h5
    rw[h5]at hi2
    have hA:A=(⟨0,0⟩,1):=by rw[←hA,if_neg fun hh=>by rw[←hi2]at hh;simp at hh]
    subst hA
    exact⟨lr rfl,lh0⟩
   ·conv=>whnf
    have h5:zuj es n=true:=by simpa[zuj]using h5
    rw[h5]at hi2
    refine⟨i+1,⟨by omega,by simpa using hi2⟩,by show nm.length-(i+1)<nm.length-i;omega,?_⟩
    ((conv=>whnf);refine And.intro ?_ ?_;repeat' first|refine lc ?_ ?_|exact la0|exact lr rfl|exact ln0|refine lh1 ?_ ?_|exact lh0|exact bf0|exact bd0|refine bc0 ?_|exact bm0 rfl|exact bg0 rfl|exact li0 rfl|refine lg0 ?_|refine lt0 ?_|fail)
    exact ai0 (by rw[wI (by omega)];omega)
  have h4: ¬i<nm.length:=by simp only[decide_eq_false_iff_not]at h4;omega
  have hnm:nm.all (zuj es)=true:=by rw[←hi2,List.drop_of_length_le (by omega)];rfl
  clear hi1 hi2 h4
  have h102:zdl es e:=f102 es (zaf (zrq h3).1) (zrq h3).2
  unfold zdl at h102
  rw[if_pos ⟨h,hd,h3,hok,hnm⟩]at hA
  generalize xcE es e=B at h102 hA
  obtain⟨r,f⟩:=B
  conv=>whnf
  refine⟨[.map .str .rat es],rto (r,f),h102.sw [(21,1000001)] rfl,?_⟩;conv=>whnf
  refine brI (fun h5=>?_) (fun h5=>?_)
  ·conv=>whnf
   have h5:f≠0:=by simpa using h5
   rw[if_neg h5]at hA
   subst hA
   exact⟨lr rfl,lh0⟩
  ·conv=>whnf
   have h5:f=0:=by simpa using h5
   rw[if_pos h5]at hA
   subst hA
   exact⟨lt0 (lc (lr rfl) (lc (ai0 h5.symm) ln0)),lh0⟩
end Go.Proofs.YtajnlbbgolmklaaGreatDoor
