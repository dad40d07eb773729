/-
  The reference's natural numbers (layer 1): limbs, order, bits.
-/
import Derived.Test.YtgehdbenidimlaaGreatDoorQRa
import Derived.Test.YtgehdbenidimlaaGreatDoorQYk
import Derived.Test.YtgehdbenidimlaaGreatDoorQYy
set_option linter.unusedVariables false
set_option linter.unusedSimpArgs false
namespace Go.Proofs.YtgehdbenidimlaaGreatDoor
open Go Go.Sx
set_option maxRecDepth 100000
set_option maxHeartbeats 8000000
theorem fdB (s:Nat):((s:Nat):Int).fdiv 4294967296=((s/4294967296:Nat):Int):=by rw[Int.fdiv_eq_ediv_of_nonneg _ (by decide)];simp
theorem loB {s:Nat} (hs:s<18446744073709551616):IntKind.u32.wrap (IntKind.u64.wrap ((BitVec.ofInt IntKind.u64.bits (s:Int)&&& BitVec.ofInt IntKind.u64.bits 4294967295).toNat :Int))=((s % 4294967296:Nat):Int):=by
 rw[zhf _ (by omega)];simp[IntKind.wrap,IntKind.signed,IntKind.bits]
theorem r262 (n:Int) (h: -4611686018427387904<=n/\n<=4611686018427387904):Fn 51 [] [.int .i64 n] (.agg (dyC (zb4 n))) []:=by
 have hv:val [((n.natAbs % 4294967296:Nat):Int),((n.natAbs/4294967296:Nat):Int)]=n.natAbs:=by
  rw[qr,qr,Int.toNat_natCast,Int.toNat_natCast];simp only[val];omega
 have hb:LB [((n.natAbs % 4294967296:Nat):Int),((n.natAbs/4294967296:Nat):Int)]:=fun z hz=>by
  simp only[List.mem_cons,List.not_mem_nil,or_false]at hz;rcases hz with rfl|rfl<;>omega
 have h296:=qcf (decide (n<0)) hb (by simp) 0 (by omega);rw[hv]at h296;have h296:Fn 101 [] [.bool (decide (n<0)),.sl .u32 [((n.natAbs % 4294967296:Nat):Int),((n.natAbs/4294967296:Nat):Int)],.int .i64 0] (.agg (dyC (zb4 n))) []:=h296;have e1:=loB (s:=n.natAbs) (by omega);have e3:IntKind.u32.wrap (((n.natAbs:Nat):Int).fdiv (2^min (Int.toNat 32) IntKind.u64.bits))=((n.natAbs/4294967296:Nat):Int):=by
  show IntKind.u32.wrap (((n.natAbs:Nat):Int).fdiv 4294967296)=_;rw[fdB,zqu (by omega)]
 generalize zb4 n=R at*;refine fnT hT6 hmx Tryz.func51 rfl rfl (ex:= []) ?_;conv=>whnf
 refine brI (fun h1=>?_) (fun h1=>?_)
 ·have h1:n<0:=of_decide_eq_true h1;have ew:IntKind.u64.wrap (0-IntKind.u64.wrap n)=(n.natAbs:Int):=by
   rw[show IntKind.u64.wrap n=n+18446744073709551616 by simp[IntKind.wrap,IntKind.signed,IntKind.bits];omega];simp[IntKind.wrap,IntKind.signed,IntKind.bits];omega
  conv=>whnf
  rw[ew,e1];refine⟨by decide,?_⟩;conv=>whnf
  rw[e3];refine gZn h296 ?_;conv=>whnf
  exact⟨lr rfl,lh0⟩
 ·have h1: ¬n<0:=of_decide_eq_false h1;have ew:IntKind.u64.wrap n=(n.natAbs:Int):=by
   rw[wU (by omega)];omega
  conv=>whnf
  rw[ew,e1];refine⟨by decide,?_⟩;conv=>whnf
  rw[e3];refine gZn h296 ?_;conv=>whnf
  exact⟨lr rfl,lh0⟩
theorem r173 (d:Dy):Fn 81 [] [.agg (dyC d)] (.bool (zrB d)) []:=by
 obtain⟨R,hR⟩: ∃R,zrB d=R:=⟨_,rfl⟩;rw[hR];unfold zrB at hR;obtain⟨d1,d2,d3⟩:=d;simp only at hR;show Fn 81 [] [.agg [.bool d1,.sl .u32 d2,.int .i64 d3]] _ [];refine fnT hT6 hmx Tryz.func81 rfl rfl (ex:= []) ?_;conv=>whnf
 cases d1 with
 |true=>
  conv=>whnf
  exact⟨ab0 hR,lh0⟩
 |false=>
  conv=>whnf
  refine brI (fun h1=>?_) (fun h1=>?_)
  ·have h2:d2.length=0:=by have h1:((d2.length:Int)==0)=true:=h1;rw[beq_iff_eq]at h1;omega
   rw[decide_eq_true h2]at hR;conv=>whnf
   exact⟨ab0 (by rw[←hR];simp;rw[Bool.eq_iff_iff];simp),lh0⟩
  ·have h2: ¬d2.length=0:=by have h1:((d2.length:Int)==0)=false:=h1;rw[beq_eq_false_iff_ne]at h1;omega
   rw[decide_eq_false h2]at hR;conv=>whnf
   exact⟨ab0 (by rw[←hR];simp),lh0⟩
theorem qcg (x:Iv) (h:RI x):Fn 40 [] [.agg (ivC x)] (.bool (viB x)) []:=by
 have hlo:=r174 x.lo h.lo h.l1;have hhi:=r174 x.hi h.hi h.l2;have zlo:=r173 x.lo;have zhi:=r173 x.hi;have hc:vB x.lo=true->vB x.hi=true->Fn 49 [] [.agg (dyC x.lo),.agg (dyC x.hi)] (.int .i64 (qa x.lo x.hi)) []:=fun h1 h2=>zvv ((xg h.lo).1 h1) ((xg h.hi).1 h2)
 obtain⟨R,hR⟩: ∃R,viB x=R:=⟨_,rfl⟩;rw[hR];unfold viB at hR;generalize vB x.lo=a at*;generalize vB x.hi=b at*;generalize zrB x.lo=c at*;generalize zrB x.hi=d at*;generalize qa x.lo x.hi=C at*;clear h;obtain⟨⟨x1,x2,x3⟩,⟨x4,x5,x6⟩,x7⟩:=x;simp only at hR;have hlo:Fn 82 [] [.agg [.bool x1,.sl .u32 x2,.int .i64 x3]] (.bool a) []:=hlo;have hhi:Fn 82 [] [.agg [.bool x4,.sl .u32 x5,.int .i64 x6]] (.bool b) []:=hhi;have zlo:Fn 81 [] [.agg [.bool x1,.sl .u32 x2,.int .i64 x3]] (.bool c) []:=zlo;have zhi:Fn 81 [] [.agg [.bool x4,.sl .u32 x5,.int .i64 x6]] (.bool d) []:=zhi;have hc:a=true->b=true->Fn 49 [] [.agg [.bool x1,.sl .u32 x2,.int .i64 x3],.agg [.bool x4,.sl .u32 x5,.int .i64 x6]] (.int .i64 C) []:=hc;show Fn 40 [] [.agg [.bool x1,.sl .u32 x2,.int .i64 x3,.bool x4,.sl .u32 x5,.int .i64 x6,.bool x7]] _ [];refine fnT hT6 hmx Tryz.func40 rfl rfl (ex:= []) ?_;conv=>whnf
 cases x7 with
 |true=>
  rw[if_pos rfl]at hR
  cases c with
  |false=>
   conv=>whnf
   refine gZn zlo ?_;conv=>whnf
   exact⟨ab0 hR,lh0⟩
  |true=>
   conv=>whnf
   refine gZn zlo ?_;conv=>whnf
   refine gZn zhi ?_;conv=>whnf
   exact⟨ab0 (by rw[←hR,Bool.true_and]),lh0⟩
 |false=>
  rw[if_neg (by simp)]at hR
  cases a with
  |false=>
   conv=>whnf
   refine gZn hlo ?_;conv=>whnf
   exact⟨ab0 (by rw[←hR];rfl),lh0⟩
  |true=>
   cases b with
   |false=>
    conv=>whnf
    refine gZn hlo ?_;conv=>whnf
    refine gZn hhi ?_;conv=>whnf
    exact⟨ab0 (by rw[←hR];rfl),lh0⟩
   |true=>
    conv=>whnf
    refine gZn hlo ?_;conv=>whnf
    refine gZn hhi ?_;conv=>whnf
    refine gZn (hc rfl rfl) ?_;conv=>whnf
    exact⟨ab0 (by rw[←hR];rfl),lh0⟩
def zwf (a b:Dy):Dy:=if qa a b<=0 then a else b
def zh4 (a b:Dy):Dy:=if 0<=qa a b then a else b
theorem r162 {a b:Dy} (ha:VD a) (hb:VD b):Fn 103 [] [.agg (dyC a),.agg (dyC b)] (.agg (dyC (zwf a b))) []:=by
 have h:=zvv ha hb;unfold zwf;generalize qa a b=C at*;refine fnT hT6 hmx Tryz.func103 rfl rfl (ex:= []) ?_;conv=>whnf
 refine gZn h ?_;conv=>whnf
 refine brI (fun c=>?_) (fun c=>?_)
 ·have c:C<=0:=of_decide_eq_true c;rw[if_pos c];conv=>whnf
  exact⟨lr rfl,lh0⟩
 ·have c: ¬C<=0:=of_decide_eq_false c;rw[if_neg c];conv=>whnf
  exact⟨lr rfl,lh0⟩
theorem r163 {a b:Dy} (ha:VD a) (hb:VD b):Fn 102 [] [.agg (dyC a),.agg (dyC b)] (.agg (dyC (zh4 a b))) []:=by
 have h:=zvv ha hb;unfold zh4;generalize qa a b=C at*;refine fnT hT6 hmx Tryz.func102 rfl rfl (ex:= []) ?_;conv=>whnf
 refine gZn h ?_;conv=>whnf
 refine brI (fun c=>?_) (fun c=>?_)
 ·have c:0<=C:=of_decide_eq_true c;rw[if_pos c];conv=>whnf
  exact⟨lr rfl,lh0⟩
 ·have c: ¬0<=C:=of_decide_eq_false c;rw[if_neg c];conv=>whnf
  exact⟨lr rfl,lh0⟩
def zcn (x:Iv):Dy:=zh4 (uk x.lo) x.hi
theorem r307 {x:Iv} (h:KI x):Fn 95 [] [.agg (ivC x)] (.agg (dyC (zcn x))) []:=by
 have n1:=r254 h.lo;have m1:=r163 (zcd h.lo) h.hi;unfold zcn;generalize zh4 (uk x.lo) x.hi=M at*;generalize uk x.lo=N at*;clear h;refine fnT hT6 hmx Tryz.func95 rfl rfl (ex:= []) ?_;conv=>whnf
 refine gZn n1 ?_;conv=>whnf
 refine gZn m1 ?_;conv=>whnf
 (refine⟨by kernel_rfl,by kernel_rfl,?_⟩;(conv=>whnf))
 exact⟨lr rfl,lh0⟩
end Go.Proofs.YtgehdbenidimlaaGreatDoor
