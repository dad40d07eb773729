/- evaluate.Apply for all operations. -/
import Derived.Test.YthbgbmdmimejiaaGreatDoorMXf
import Derived.Test.YthbgbmdmimejiaaGreatDoorMXh
import Derived.Test.YthbgbmdmimejiaaGreatDoorMYc
set_option linter.all false
namespace Go.Proofs.YthbgbmdmimejiaaGreatDoor
open Go Go.Sx
set_option maxRecDepth 100000
set_option maxHeartbeats 8000000
def fxA(k:Int)(x:Iv)(p:Int):Iv:=if k=9 then zrn x p else if k=10 then zo4 x p else if k=11 then ciI x false p else ciI x true p
def Kt(k:Int):Prop:=3<=k/\k<=13
theorem CI_fx(k:Int){x:Iv}(hx:RI x)(p:Int):CI (fxA k x p):=by
 unfold fxA;split
 .exact qmm _ _
 split
 .exact qmj _ _
 split
 .exact qmp hx _ _
 .exact qmp hx _ _
theorem x25(k n:Int)(x y:Iv)(hx:RI x)(p:Int)(hk:k=9\/k=10\/k=11\/k=12):Fn 61 G0 [.int .i64 k,.int .i64 n,.agg (ivC x),.agg (ivC y),.int .i64 p] (.agg (ivC (fxA k x p))) G0:=by
 have a1:=x33 x hx p;have a2:=x34 x hx p;have a3:=c35 x hx p;have a4:=c36 x hx p;rcases hk with rfl|rfl|rfl|rfl
 .show Fn 61 G0 _ (.agg (ivC (zrn x p))) G0;generalize zrn x p=R at*;refine fY6 Tryz.func61 rfl ?_;refine gYc a1 ?_;exact⟨lr rfl,leG⟩
 .show Fn 61 G0 _ (.agg (ivC (zo4 x p))) G0;generalize zo4 x p=R at*;refine fY6 Tryz.func61 rfl ?_;refine gYc a2 ?_;exact⟨lr rfl,leG⟩
 .show Fn 61 G0 _ (.agg (ivC (ciI x false p))) G0;generalize ciI x false p=R at*;refine fY6 Tryz.func61 rfl ?_;refine gYc a3 ?_;exact⟨lr rfl,leG⟩
 .show Fn 61 G0 _ (.agg (ivC (ciI x true p))) G0;generalize ciI x true p=R at*;refine fY6 Tryz.func61 rfl ?_;refine gYc a4 ?_;exact⟨lr rfl,leG⟩
theorem ApKt(p:Int):ApK fxA Kt p:=fun k n x y hk hx hy=>by
 by_cases h:9<=k/\k<=12
 .have e:apI fxA k n x y p=fxA k x p:=by
   unfold apI;rw[Z5 O,Z5 O,Z5 O,Z5 O,Z5 O,Z5 O,Z5 O,Z4 h]
  rw[e];exact⟨x25 k n x y hx p O,CI_fx k hx p⟩
 .have hk:Ka k:=by unfold Kt at hk;unfold Ka;omega
  exact⟨i52 hk n x y hx hy p,CI_ap hk n y p hx⟩
theorem ng_w:zge wI0=wI0:=by simp[zge,zs9]
theorem qg1{k n p:Int}{y:Iv}(hk:K1 k\/k=8\/K2 k):apI fxA k n wI0 y p=wI0:=by
 have e3:∀z,ym wI0 z p=wI0:=fun z=>by simp[ym,zs9]
 unfold K1 K2 at hk;obtain rfl|rfl|rfl|rfl|rfl|rfl|rfl|rfl|rfl|rfl|rfl:k=3\/k=4\/k=5\/k=6\/k=7\/k=8\/k=9\/k=10\/k=11\/k=12\/k=13:=O
 .exact e3 y
 .exact e3 (zge y)
 .show za9 wI0 y p=wI0;simp[za9,zs9]
 .show xt wI0 y p=wI0;simp[xt,zs9]
 .exact ng_w
 .show zl7 wI0 n p=wI0;simp[zl7,zs9]
 .show zrn wI0 p=wI0;simp[zrn,ftB,zs9]
 .show zo4 wI0 p=wI0;simp[zo4,ftB,zs9]
 .show ciI wI0 false p=wI0;simp[ciI,zs9]
 .show ciI wI0 true p=wI0;simp[ciI,zs9]
 .show xw wI0 p=wI0;simp[xw,zs9]
theorem ap_w2{k n p:Int}{x:Iv}(hk:K2 k):apI fxA k n x wI0 p=wI0:=by
 have e3:ym x wI0 p=wI0:=by simp[ym,zs9]
 unfold K2 at hk;obtain rfl|rfl|rfl|rfl:=hk
 .exact e3
 .show ym x (zge wI0) p=wI0;rw[ng_w,e3]
 .show za9 x wI0 p=wI0;simp[za9,zs9]
 .show xt x wI0 p=wI0;simp[xt,zs9]
theorem zhf:∀ {e:Ex},VT e->VK Kt e
 | _,.num r h=>.num r h
 | _,.var s h=>.var s h
 | _,.un k a h1 h2=>.un k a (by unfold K1 at h1;unfold Kt;omega) h1 (zhf h2)
 | _,.pow n a h1 h2 h3=>.pow n a (by unfold Kt;omega) h1 h2 (zhf h3)
 | _,.bin k a b h1 h2 h3=>.bin k a b (by unfold K2 at h1;unfold Kt;omega) h1 (zhf h2) (zhf h3)
theorem x16(e:Ex)(he:Sm e)(ns:List zn)(xs:List Iv)(hx:∀x∈xs,RI x)(h1:ns.length<9223372036854775808)(h2:xs.length<9223372036854775808)(p:Int):
 Fn 7 G0 [.agg (exC e),.sl .str ns,.sl .iv xs,.int .i64 p] (.agg (ivC (zmc fxA e ns xs p))) G0:=i8 (fun p _=>ApKt p) e he (fun h=>zhf (zb2 h)) ns xs hx h1 h2 p
theorem qdo(e:Ex)(ns:List zn)(xs:List Iv)(hx:∀x∈xs,RI x)(p:Int):RI (zmc fxA e ns xs p):=by
 unfold zmc;split
 .rename_i c;exact(i26 c.1.2.2 (ApKt p) (zhc ns xs [] hx fun q hq=>by cases hq) (zhf (zb2 c.1.2.1))).2
 .exact zps
