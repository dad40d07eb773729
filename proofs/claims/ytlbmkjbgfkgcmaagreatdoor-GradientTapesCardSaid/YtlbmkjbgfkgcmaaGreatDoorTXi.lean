/- evaluate.Apply for all operations. -/
import Derived.Test.YtlbmkjbgfkgcmaaGreatDoorTXf
import Derived.Test.YtlbmkjbgfkgcmaaGreatDoorTXh
set_option linter.all false
namespace Go.Proofs.YtlbmkjbgfkgcmaaGreatDoor
open Go Go.Sx
set_option maxRecDepth 100000
set_option maxHeartbeats 8000000
def fxA(k:Int)(x:Iv)(p:Int):Iv:=if k=9 then zyx x p else if k=10 then zyp x p else if k=11 then ciI x false p else ciI x true p
def Kt(k:Int):Prop:=3<=k/\k<=13
theorem CI_fx(k:Int){x:Iv}(hx:RI x)(p:Int):CI (fxA k x p):=by
 unfold fxA;split
 .exact qgo _ _
 split
 .exact qgk _ _
 split
 .exact zx0 hx _ _
 .exact zx0 hx _ _
theorem x25(k n:Int)(x y:Iv)(hx:RI x)(p:Int)(hk:k=9\/k=10\/k=11\/k=12):Fn 67 G0 [.int .i64 k,.int .i64 n,.agg (ivC x),.agg (ivC y),.int .i64 p] (.agg (ivC (fxA k x p))) G0:=by
 have a1:=x33 x hx p;have a2:=x34 x hx p;have a3:=c35 x hx p;have a4:=c36 x hx p;rcases hk with rfl|rfl|rfl|rfl
 .show Fn 67 G0 _ (.agg (ivC (zyx x p))) G0;generalize zyx x p=R at*;refine fY6 Tryz.func67 rfl ?_;refine gYc a1 ?_;exact⟨lr rfl,leG⟩
 .show Fn 67 G0 _ (.agg (ivC (zyp x p))) G0;generalize zyp x p=R at*;refine fY6 Tryz.func67 rfl ?_;refine gYc a2 ?_;exact⟨lr rfl,leG⟩
 .show Fn 67 G0 _ (.agg (ivC (ciI x false p))) G0;generalize ciI x false p=R at*;refine fY6 Tryz.func67 rfl ?_;refine gYc a3 ?_;exact⟨lr rfl,leG⟩
 .show Fn 67 G0 _ (.agg (ivC (ciI x true p))) G0;generalize ciI x true p=R at*;refine fY6 Tryz.func67 rfl ?_;refine gYc a4 ?_;exact⟨lr rfl,leG⟩
theorem ApKt(p:Int):ApK fxA Kt p:=fun k n x y hk hx hy=>by
 by_cases h:9<=k/\k<=12
 .have e:apI fxA k n x y p=fxA k x p:=by
   unfold apI;rw[Z7 O,Z7 O,Z7 O,Z7 O,Z7 O,Z7 O,Z7 O,Z6 h]
  rw[e];exact⟨x25 k n x y hx p O,CI_fx k hx p⟩
 .have hk:Ka k:=by unfold Kt at hk;unfold Ka;omega
  exact⟨i52 hk n x y hx hy p,qck hk n y p hx⟩
theorem x103(d:Dy)(hl:d.m.length<9223372036854775808):Fn 151 [] [.agg (dyC d),.agg (dyC d)] (.bool true) []:=by
 have h:=y59 d.m hl;obtain⟨s,m,e⟩:=d;cases s
 all_goals
  refine fY8 Tryz.func151 rfl ?_;refine brI (fun _=>?_) (fun c=>?_)
  rotate_left
  .exact absurd (show(e==e)=true by simp) (by rw[show(e==e)=false from c];simp)
  conv=>whnf
  refine brI (fun _=>?_) (fun c=>?_)
  rotate_left
  .exact absurd (show((m.length:Int)==(m.length:Int))=true by simp) (by rw[show((m.length:Int)==(m.length:Int))=false from c];simp)
  conv=>whnf
  refine gYn h ?_;exact⟨lr rfl,lh0⟩
