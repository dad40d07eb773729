/- Operators, conversions, indexes, lengths. -/
import Derived.Test.YtlbmkjbgfkgcmaaGreatDoorSSxF
set_option linter.all false
open List renaming toArray->q0
open Go.Builtin renaming len_->q1,max_->qG,max2->qH
open Go.Op renaming stringOp->q2,intCmp->q9,bytesLess->qC,equalIn->qD,intBits->qE,intArith->qF,equal->qI
open Go.Result renaming andThen_ok->q3
open Go.Sem renaming run_bind->qA,run_pure->qB
namespace Go.Sx
open Go
section
variable {P:Program} {T:Tab} {F:Wf} {C:Con} {c:Ctx} {o:Oper} {Y:St} {a:Act} {w:World} {E:AV->List Blk->Prop} {ids:List Nat} {bs:List Blk} {dst:Nat}
theorem zfn{k k':IntKind}(h:zmr k k'=true):k=k':=by
 cases k<;>cases k'<;>simp[zmr]at h<;>rfl
theorem qm(h:Rel c Y a w){b:BinOp}{t ty:TypeId}{x y:Operand}(ho:o.op=.binOp b t x y ty){r:AV}(hE:E r bs)(vx vy v:Value)
 (hx:a.eval x=vx) (hy:a.eval y=vy) (hg:(eqGuard b t x y vx vy).run P w=.ok () w) (hb:(binOp b t vx vy).run P w=.ok v w) (hr:∀ρ,R ρ r v):Snd P F T c o Y a w E:=by
 refine qz h hE (by simp[wr,ho]) v ?_ fun M pt ow S _ _ pt' ow' _=>hr _
 simp only[execOp,ho,hx,hy,qA,hg,q3,hb,qB]
theorem ve(b:BinOp)(t:TypeId)(x y:Operand)(k k':IntKind)(m n:Int):(eqGuard b t x y (.int k m) (.int k' n)).run P w=.ok () w:=by
 unfold eqGuard;cases b<;>simp
theorem xe(b:BinOp)(t:TypeId)(x y:Operand)(m n:ByteArray):(eqGuard b t x y (.string m) (.string n)).run P w=.ok () w:=by
 unfold eqGuard;cases b<;>simp
theorem zh8(b:BinOp)(t:TypeId)(x y:Operand)(m n:Bool):(eqGuard b t x y (.bool m) (.bool n)).run P w=.ok () w:=by
 unfold eqGuard;cases b<;>simp
theorem zk2(b:BinOp)(t:TypeId)(x y:Operand)(m n:Array Value)(hg:P.eqGuardType P.depth t=false):(eqGuard b t x y (.agg m) (.agg n)).run P w=.ok () w:=by
 have hp:(program).run P w=.ok P w:=rfl;unfold eqGuard;cases b<;>simp[hg,hp]
theorem rEqIn{t:TypeId}(hu:P.underlying t=some .bool)(m n:Bool)(d:Nat):(qD (d+1) t (.bool m) (.bool n)).run P w=.ok (m==n) w:=by
 simp[qD,zae hu]
theorem zx0{t e:TypeId}(hu:P.underlying t=some (.slice e))(ao:Option Addr)(n cap d:Nat):(qD (d+1) t (.slice ao n cap) (.slice none 0 0)).run P w=.ok ao.isNone w:=by
 cases ao<;>simp[qD,zae hu]
theorem zrt{t:TypeId}(hu:P.underlying t=some .bool)(m n:Bool):(qI t (.bool m) (.bool n)).run P w=.ok (m==n) w:=
 rEqIn hu m n 9999
theorem zq8(hT:TabOK P T)(h:Rel c Y a w){b:BinOp}{t ty:TypeId}{x y:Operand}(ho:o.op=.binOp b t x y ty)(he:ql T C (.binOp b t x y ty) dst (zf Y.sl) ids bs E):Snd P F T c o Y a w E:=by
 obtain⟨M,pt,ow,S,hg,hs,hr⟩:=h.own;have hx:=za hr x;have hy:=za hr y;simp only[ql]at he;obtain⟨i,hmem,he⟩:=qt _ _ _ he;have hi:=hT.ti _ _ hmem;unfold qbo at he;split at he
 .rename_i k m k' n e1 e2;rw[e1]at hx;rw[e2]at hy;simp only[R]at hx hy;split at he
  .simp only[qaq]at he;obtain⟨h0,he⟩:=he;refine qm h ho he _ _ (.int k (k.wrap (m*2^min n.toNat k.bits))) hx hy (ve ..) ?_ (fun ρ=>by simp[R]);have:¬n<0:=O;simp[binOp,Op.shift,this]
  .simp only[qaq]at he;obtain⟨h0,he⟩:=he;refine qm h ho he _ _ (.int k (m.fdiv (2^min n.toNat k.bits))) hx hy (ve ..) ?_ (fun ρ=>by simp[R]);have:¬n<0:=O;simp[binOp,Op.shift,this]
  .rename_i hn1 hn2;split at he
   .rename_i hk;have hk:=zfn hk;subst hk;have hint:∀v,(binOp b t (.int k m) (.int k n)).run P w=.ok v w->(binOp b t (.int k m) (.int k n)).run P w=.ok v w:=fun _ h=>h
    cases b<;>simp only[qaq]at he
    case shl=>exact absurd rfl hn1
    case shr=>exact absurd rfl hn2
    case add=>exact qm h ho he _ _ _ hx hy (ve ..) (by simp[binOp,qF];rfl) (fun ρ=>by simp[R])
    case sub=>exact qm h ho he _ _ _ hx hy (ve ..) (by simp[binOp,qF];rfl) (fun ρ=>by simp[R])
    case mul=>exact qm h ho he _ _ _ hx hy (ve ..) (by simp[binOp,qF];rfl) (fun ρ=>by simp[R])
    case quo=>exact qm h ho he.2 _ _ _ hx hy (ve ..) (by simp[binOp,Op.intDiv,he.1];rfl) (fun ρ=>by simp[R])
    case rem=>exact qm h ho he.2 _ _ _ hx hy (ve ..) (by simp[binOp,Op.intDiv,he.1];rfl) (fun ρ=>by simp[R])
    case and=>exact qm h ho he _ _ _ hx hy (ve ..) (by simp[binOp,qE];rfl) (fun ρ=>by simp[R])
    case or=>exact qm h ho he _ _ _ hx hy (ve ..) (by simp[binOp,qE];rfl) (fun ρ=>by simp[R])
    case xor=>exact qm h ho he _ _ _ hx hy (ve ..) (by simp[binOp,qE];rfl) (fun ρ=>by simp[R])
    case andNot=>exact qm h ho he _ _ _ hx hy (ve ..) (by simp[binOp,qE];rfl) (fun ρ=>by simp[R])
    case eql=>exact qm h ho he _ _ (.bool (m==n)) hx hy (ve ..) (by simp[binOp,q9]) (fun ρ=>by simp[R])
    case neq=>exact qm h ho he _ _ (.bool (m != n)) hx hy (ve ..) (by simp[binOp,q9]) (fun ρ=>by simp[R])
    case lss=>exact qm h ho he _ _ (.bool (m<n)) hx hy (ve ..) (by simp[binOp,q9]) (fun ρ=>by simp[R])
    case leq=>exact qm h ho he _ _ (.bool (m<=n)) hx hy (ve ..) (by simp[binOp,q9]) (fun ρ=>by simp[R])
    case gtr=>exact qm h ho he _ _ (.bool (m>n)) hx hy (ve ..) (by simp[binOp,q9]) (fun ρ=>by simp[R])
    case geq=>exact qm h ho he _ _ (.bool (m≥n)) hx hy (ve ..) (by simp[binOp,q9]) (fun ρ=>by simp[R])
   .exact he.elim
 .rename_i s s' e1 e2;rw[e1]at hx;rw[e2]at hy;simp only[R]at hx hy;cases b<;>simp only[strB]at he
  case add=>
   refine qm h ho he.2 _ _ (.string ⟨(s++s').toArray⟩) hx hy (xe ..) ?_ (fun ρ=>by simp[R]);have:(binOp .add t (.string ⟨s.toArray⟩) (.string ⟨s'.toArray⟩))=q2 .add ⟨s.toArray⟩ ⟨s'.toArray⟩:=rfl;rw[this,run_string_add_sum w _ _ (by have:=he.1;simp[ByteArray.size];omega),ByteArray.mk_append_mk]
  case eql=>exact qm h ho he _ _ (.bool (s==s')) hx hy (xe ..) (by simp[binOp,q2,Go.ByteArray.toList_eq]) (fun ρ=>by simp[R])
  case neq=>exact qm h ho he _ _ (.bool !(s==s')) hx hy (xe ..) (by simp[binOp,q2,Go.ByteArray.toList_eq]) (fun ρ=>by simp[R])
  case lss=>exact qm h ho he _ _ (.bool (qC s s')) hx hy (xe ..) (by simp[binOp,q2,Go.ByteArray.toList_eq]) (fun ρ=>by simp[R])
  case leq=>exact qm h ho he _ _ (.bool (qC s s'||s==s')) hx hy (xe ..) (by simp[binOp,q2,Go.ByteArray.toList_eq]) (fun ρ=>by simp[R])
  case gtr=>exact qm h ho he _ _ (.bool !(qC s s'||s==s')) hx hy (xe ..) (by simp[binOp,q2,Go.ByteArray.toList_eq]) (fun ρ=>by simp[R])
  case geq=>exact qm h ho he _ _ (.bool !qC s s') hx hy (xe ..) (by simp[binOp,q2,Go.ByteArray.toList_eq]) (fun ρ=>by simp[R])
 .rename_i m n e1 e2;rw[e1]at hx;rw[e2]at hy;simp only[R]at hx hy;split at he
  .have hu:=hi.bool ((zb _ _).1 (by assumption));exact qm h ho he _ _ (.bool (m==n)) hx hy (zh8 ..) (by simp[binOp,zrt hu]) (fun ρ=>by simp[R])
  .have hu:=hi.bool ((zb _ _).1 (by assumption));exact qm h ho he _ _ (.bool !(m==n)) hx hy (zh8 ..) (by simp[binOp,zrt hu]) (fun ρ=>by simp[R])
  .exact he.elim
 .rename_i kk xs e1 e2;rw[e1]at hx;rw[e2]at hy;simp only[R]at hx hy;have hsl:∃ao n cap,a.eval x=.slice ao n cap/\(ao=none->xs= []):=by
   cases hv:a.eval x<;>rw[hv]at hx<;>cases hx
   rename_i ao n cap b0 p hel ha hn hm hc;refine⟨ao,n,cap,rfl,fun e=>?_⟩;subst e
   cases xs with
   |nil=>rfl
   |cons y ys=>have:=ha OC;cases this
  obtain⟨ao,n,cap,hxe,hnil⟩:=hsl;have hgd:(eqGuard b t x y (.slice ao n cap) (.slice none 0 0)).run P w=.ok () w:=by
   unfold eqGuard;cases b<;>simp
  split at he
  .obtain⟨hu,_⟩:=hi.slice ((zb _ _).1 (by assumption));have heq:(qI t (.slice ao n cap) (.slice none 0 0)).run P w=.ok ao.isNone w:=by
    exact zx0 hu ao n cap 9999
   refine qm h ho he _ _ (.bool ao.isNone) hxe hy hgd (by simp[binOp,heq]) (fun ρ=>?_);simp only[R];exact⟨_,rfl,fun e=>hnil (by simpa using e),fun _=>trivial⟩
  .obtain⟨hu,_⟩:=hi.slice ((zb _ _).1 (by assumption));have heq:(qI t (.slice ao n cap) (.slice none 0 0)).run P w=.ok ao.isNone w:=by
    exact zx0 hu ao n cap 9999
   refine qm h ho he _ _ (.bool !ao.isNone) hxe hy hgd (by simp[binOp,heq]) (fun ρ=>?_);simp only[R];exact⟨_,rfl,fun _=>trivial,fun e=>hnil (by simpa using e)⟩
  .exact he.elim
 .rename_i l m e1 e2;rw[e1]at hx;rw[e2]at hy;simp only[R]at hx hy;obtain⟨vs,hx,hrx⟩:=hx;obtain⟨us,hy,hry⟩:=hy;split at he
  .rename_i heq;obtain⟨F,hu,_,hEq⟩:=hi.struct (hi.eq heq);obtain⟨hgd,hq⟩:=hEq heq;split at he
   .obtain⟨r,hE,hrun⟩:=hq l m _ _ vs us he hrx hry;exact qm h ho hE _ _ (.bool r) hx hy (zk2 _ _ _ _ _ _ hgd) (by simp[binOp,hrun]) (fun ρ=>by simp[R])
   .obtain⟨r,hE,hrun⟩:=hq l m _ _ vs us he hrx hry;exact qm h ho hE _ _ (.bool !r) hx hy (zk2 _ _ _ _ _ _ hgd) (by simp[binOp,hrun]) (fun ρ=>by simp[R])
   .exact he.elim
  .exact he.elim
 .exact he.elim
theorem zdq:∀(l:List AV)(n:Nat),zsu l n=true->l.length=n
 | [],n,h=>by cases n<;>simp[zsu]at h⊢
 |x::l,0,h=>by simp[zsu]at h
 |x::l,n+1,h=>by simp only[zsu]at h;simp[zdq l n h]
theorem zl9(hT:TabOK P T)(h:Rel c Y a w){s d:TypeId}{x:Operand}(ho:o.op=.convert s d x)(he:ql T C (.convert s d x) dst (zf Y.sl) ids bs E):Snd P F T c o Y a w E:=by
 have hw:wr o.op=false:=by simp[wr,ho]
 obtain⟨M,pt,ow,S,hg,hs,hr⟩:=h.own;have hx:=za hr x;simp only[ql]at he;obtain⟨j,hmj,he⟩:=qt _ _ _ he;obtain⟨i,hmi,he⟩:=qt _ _ _ he;have hj:=hT.ti _ _ hmj;have hi:=hT.ti _ _ hmi;split at he
 .rename_i k n e;rw[e]at hx;simp only[R]at hx;split at he
  .have h1:=hj.int rfl;have h2:=hi.int rfl;refine qz h he hw _ ?_ fun _ _ _ _ _ _ _ _ _=>by simp only[R];rfl
   simp[execOp,ho,hx,convert,zae h1,zae h2,Conv.intToInt]
  .exact he.elim
 .rename_i b e;rw[e]at hx;simp only[R]at hx;split at he
  .rename_i h1 h2;have h1:=hj.string ((zb _ _).1 h1);have h2:=hi.string ((zb _ _).1 h2);refine qz h he hw _ ?_ fun _ _ _ _ _ _ _ _ _=>by simp only[R];rfl
   simp[execOp,ho,hx,convert,zae h1,zae h2]
  .exact he.elim
 .exact he.elim
theorem zzj(hT:TabOK P T)(h:Rel c Y a w){cl:Call}(ho:o.op=.call cl)(hcl:cl.callee=.builtin .len)(he:ql T C (.call cl) dst (zf Y.sl) (nd T o Y) (qi Y.hp (nd T o Y)) E)
 (hmp:∀(x:Operand)(t:TypeId),cl.args= #[x]->cl.argTypes= #[t]->isMp (zf Y.sl x)=true->zhd T t (fun _ _ _=>zpw (qi Y.hp (nd T o Y)) E)->Snd P F T c o Y a w E):Snd P F T c o Y a w E:=by
 have hw:wr o.op=false:=by simp[wr,ho,hcl]
 simp only[ql,hcl]at he;split at he
 .rename_i x t ha ht;split at he
  .rename_i hm;exact hmp x t (by have:=congrArg q0 ha;simpa using this) (by have:=congrArg q0 ht;simpa using this) hm he
  obtain⟨i,hmi,he⟩:=qt _ _ _ he;have hi:=hT.ti _ _ hmi;have hn:nd T o Y=(match zf Y.sl x with|.own id=> [id]|.mp id=> [id]| _=> []):=by simp only[nd,ho,xg,hcl,ha];rfl
  have ha':cl.args= #[x]:=by
   have:=congrArg q0 ha;simpa using this
  have ht':cl.argTypes= #[t]:=by
   have:=congrArg q0 ht;simpa using this
  have hrun:∀v,(q1 #[t] o.type #[a.eval x]).run P w=.ok v w->(execOp a.eval o).run P w=.ok (.value v) w:=fun v hv=>by
   simp[execOp,ho,resolve,hcl,ha',ht',invoke,builtin,hv]
  obtain⟨M,pt,ow,S,hg,hs,hr⟩:=h.own;have hx:=za hr x;unfold zku at he;split at he
  .rename_i s e;rw[e]at hx;simp only[R]at hx;split at he
   .rename_i hc;have hu:=hi.string ((zb _ _).1 hc);refine qz h he hw (.int .i64 s.length) (hrun _ ?_) fun _ _ _ _ _ _ _ _ _=>by simp only[R]
    have hsz:(⟨s.toArray⟩:ByteArray).size =s.length:=by simp[ByteArray.size]
    simp[q1,hx,zae hu,goInt,hsz]
   .exact he.elim
  .rename_i k xs e;rw[e]at hx;simp only[R]at hx;split at he
   .rename_i hc;have hu:=(hi.slice ((zb _ _).1 hc)).1;cases hv:a.eval x<;>rw[hv]at hx<;>cases hx
    rename_i ao n cap b p _ _ hn' _ _;subst hn';refine qz h he hw (.int .i64 xs.length) (hrun _ ?_) fun _ _ _ _ _ _ _ _ _=>by simp only[R]
    simp[q1,hv,zae hu,goInt]
   .exact he.elim
  .rename_i e;rw[e]at hx;simp only[R]at hx;split at he
   .rename_i hc;have hu:=(hi.slice ((zb _ _).1 hc)).1;refine qz h he hw (.int .i64 0) (hrun _ ?_) fun _ _ _ _ _ _ _ _ _=>by simp only[R]
    simp[q1,hx,zae hu,goInt]
   .exact he.elim
  .rename_i i0 s0 j0 n0 e;rw[e]at hx;simp only[R]at hx;obtain⟨⟨b0,p0,cp,hv⟩,_⟩:=hx;split at he
   .rename_i hc;have hu:=(hi.slice ((zb _ _).1 hc)).1;refine qz h he hw (.int .i64 n0) (hrun _ ?_) fun _ _ _ _ _ _ _ _ _=>by simp only[R]
    simp[q1,hv,zae hu,goInt]
   .exact he.elim
  .rename_i id e;have hn':nd T o Y= [id]:=by rw[hn,e]
   rw[hn',wp]at he;rw[e]at hx;simp only[R]at hx;split at he
   .rename_i hc hb;have hu:=(hi.slice ((zb _ _).1 hc)).1;rename_i et k xs;simp at hb;obtain⟨hd,how,hbuf⟩:=hg.buf id et k xs hb;have hv:=hx.2 hd how;refine qz h he hw (.int .i64 xs.length) (hrun _ ?_) fun _ _ _ _ _ _ _ _ _=>by simp only[R]
    rcases hbuf with ⟨hh,hxs⟩|⟨b,cap,cs,hh,_⟩
    .rw[hh]at hv;simp[q1,hv,zae hu,goInt,hxs]
    .rw[hh]at hv;simp[q1,hv,zae hu,goInt]
   .exact he.elim
  .exact he.elim
 .exact he.elim
theorem zpv{ρ:Operand->AV}{l:List Operand}{u v s:AV}(h:yz ρ l= [u,v,s]):∃x y z,l= [x,y,z]/\ρ x=u/\ρ y=v/\ρ z=s:=by
 match l,h with
 | [x,y,z],h=>simp[yz]at h;exact⟨x,y,z,rfl,h.1,h.2.1,h.2.2⟩
 | [],h=>simp[yz]at h
 | [_],h=>simp[yz]at h
 | [_,_],h=>simp[yz]at h
 | _::_::_::_::_,h=>simp[yz]at h
theorem zoh{ρ:Operand->AV}{l:List Operand}{u v:AV}(h:yz ρ l= [u,v]):∃x y,l= [x,y]/\ρ x=u/\ρ y=v:=by
 match l,h with
 | [x,y],h=>simp[yz]at h;exact⟨x,y,rfl,h.1,h.2⟩
 | [],h=>simp[yz]at h
 | [_],h=>simp[yz]at h
 | _::_::_::_,h=>simp[yz]at h
theorem zzi(h:Rel c Y a w){cl:Call}(ho:o.op=.call cl)(hcl:cl.callee=.builtin .max)(he:ql T C (.call cl) dst (zf Y.sl) ids bs E):Snd P F T c o Y a w E:=by
 have hw:wr o.op=false:=by simp[wr,ho,hcl]
 obtain⟨M,pt,ow,S,hg,hs,hr⟩:=h.own;simp only[ql,hcl]at he;split at he
 .rename_i k m k' n e;obtain⟨x,y,hl,h1,h2⟩:=zoh e;have hx:=za hr x;have hy:=za hr y;rw[h1]at hx;rw[h2]at hy;simp only[R]at hx hy;have ha':cl.args= #[x,y]:=by
   have:=congrArg q0 hl;simpa using this
  refine qz h he hw (.int k (if n>m then n else m)) ?_ fun _ _ _ _ _ _ _ _ _=>by simp only[R]
  simp[execOp,ho,resolve,hcl,ha',invoke,builtin,qG,qH,hx,hy]
 .rename_i k m k' n k'' q e;obtain⟨x,y,z,hl,h1,h2,h3⟩:=zpv e;have hx:=za hr x;have hy:=za hr y;have hz:=za hr z;rw[h1]at hx;rw[h2]at hy;rw[h3]at hz;simp only[R]at hx hy hz;have ha':cl.args= #[x,y,z]:=by
   have:=congrArg q0 hl;simpa using this
  refine qz h he hw (.int k (if q>(if n>m then n else m)then q else if n>m then n else m)) ?_ fun _ _ _ _ _ _ _ _ _=>by simp only[R]
  simp[execOp,ho,resolve,hcl,ha',invoke,builtin,qG,qH,hx,hy,hz]
 .exact he.elim
theorem zzh(h:Rel c Y a w){cl:Call}(ho:o.op=.call cl)(hcl:cl.callee=.builtin .min)(he:ql T C (.call cl) dst (zf Y.sl) ids bs E):Snd P F T c o Y a w E:=by
 have hw:wr o.op=false:=by simp[wr,ho,hcl]
 obtain⟨M,pt,ow,S,hg,hs,hr⟩:=h.own;simp only[ql,hcl]at he;split at he
 .rename_i k m k' n e;obtain⟨x,y,hl,h1,h2⟩:=zoh e;have hx:=za hr x;have hy:=za hr y;rw[h1]at hx;rw[h2]at hy;simp only[R]at hx hy;have ha':cl.args= #[x,y]:=by
   have:=congrArg q0 hl;simpa using this
  refine qz h he hw (.int k (if n<m then n else m)) ?_ fun _ _ _ _ _ _ _ _ _=>by simp only[R]
  simp[execOp,ho,resolve,hcl,ha',invoke,builtin,Builtin.min_,Builtin.min2,hx,hy]
 .exact he.elim
theorem zq4(hT:TabOK P T)(h:Rel c Y a w){t:TypeId}{x i:Operand}(ho:o.op=.index t x i)(he:ql T C (.index t x i) dst (zf Y.sl) ids bs E):Snd P F T c o Y a w E:=by
 have hw:wr o.op=false:=by simp[wr,ho]
 obtain⟨M,pt,ow,S,hg,hs,hr⟩:=h.own;have hx:=za hr x;have hi:=za hr i;simp only[ql]at he;obtain⟨ti,hmi,he⟩:=qt _ _ _ he;have hti:=hT.ti _ _ hmi;split at he
 .rename_i s k n hc e1 e2;rw[e1]at hx;rw[e2]at hi;simp only[R]at hx hi;obtain⟨⟨h0,h1⟩,he⟩:=he;have hlt:n.toNat<s.length:=O;have hc':s[n.toNat]? =some s[n.toNat]:=by simp[hlt]
  have hu:=hti.string ((zb _ _).1 hc);refine qz h (he _ hc') hw (.int .u8 (s[n.toNat]).toNat) ?_ fun _ _ _ _ _ _ _ _ _=>by simp only[R]
  have hget:(⟨s.toArray⟩:ByteArray)[n.toNat]? =some s[n.toNat]:=by
   have hsz:(⟨s.toArray⟩:ByteArray).size =s.length:=by simp[ByteArray.size]
   rw[getElem?_pos _ _ (by rw[hsz];exact hlt)];rfl
  simp[execOp,ho,hx,hi,Instr.index,asIntOf,zae hu,h0,hget]
 .rename_i l k n hc e1 e2;split at he
  .rename_i hc4;rw[e1]at hx;rw[e2]at hi;simp only[R]at hx hi;obtain⟨tj,hmj,he⟩:=qt _ _ _ he;obtain⟨⟨h0,h1⟩,he⟩:=he;obtain⟨hu,inf',hinf',hsz',_⟩:=hti.array ((zb _ _).1 hc4);have htj:=hT.ti _ _ hmj;obtain⟨inf,z,hinf,hs0,_⟩:=htj.inf;obtain⟨d,hd,ha,h3,_⟩:=htj.und;obtain⟨vs,hv,hrs⟩:=hx;obtain⟨r,v,hE,hrun,_,_,hrv⟩:=qdn (P:=P) hinf hd _ hs0 ha h3 hrs he;refine qz h hE hw v ?_ fun M' pt' ow' S' hg' hs' pt'' ow'' hag=>?_
   .simp only[execOp,ho,Instr.index,hi,asIntOf,qA,zae hu,q3,hv,h0,h1,true_and,and_self,if_true,zcf hinf',hsz',qB,hrun]
   .have hx':=za (hs' pt'' ow'' hag).1 x;rw[e1,hv]at hx';simp only[R]at hx';obtain⟨vs',hv',hrs'⟩:=hx';simp at hv';subst hv';exact hrv _ hrs'
  .exact he.elim
 .exact he.elim
theorem ziy(hT:TabOK P T)(h:Rel c Y a w){t:TypeId}{x i:Operand}(ho:o.op=.indexAddr t x i)(he:ql T C (.indexAddr t x i) dst (zf Y.sl) (nd T o Y) (qi Y.hp (nd T o Y)) E):Snd P F T c o Y a w E:=by
 have hw:wr o.op=false:=by simp[wr,ho]
 obtain⟨M,pt,ow,S,hg,hs,hr⟩:=h.own;have hi:=za hr i;simp only[ql]at he;obtain⟨ti,hmi,he⟩:=qt _ _ _ he;have hti:=hT.ti _ _ hmi;split at he
 .rename_i kk n e2;rw[e2]at hi;simp only[R]at hi;split at he
  .rename_i sz fs el esz len k0 ik z by_ eq;obtain⟨hu,inf,hinf,hsz⟩:=hti.slice rfl;have hrun:∀b p l cap,a.eval x=.slice (some ⟨b,p,none⟩) l cap->0<=n->n<l->(execOp a.eval o).run P w=.ok (.value (.pointer (some ⟨b,p+n.toNat*esz,none⟩))) w:=fun b p l cap hv h0 h1=>by
    simp only[execOp,ho,Instr.indexAt,hi,asIntOf,qA,qB,q3,zae hu,hv,h0,h1,true_and,if_true,and_self,zcf hinf,wk];rw[hsz]
   split at he
   .rename_i k xs e1;split at he
    .rename_i hk;have hk:=(zb _ _).1 hk;obtain⟨⟨h0,h1⟩,he⟩:=he;have hlt:n.toNat<xs.length:=O;have hxe:xs[n.toNat]? =some xs[n.toNat]:=by simp[hlt]
     refine qj h (he _ hxe) hw (fun _ _=>True) fun M' pt' ow' S' hg' hs'=>?_
     have hx:=za (hs' pt' ow' (Agr.refl _ _ _)).1 x;rw[e1]at hx;simp only[R]at hx;cases hv:a.eval x<;>rw[hv]at hx<;>cases hx
     rename_i ao l cap b p hel ha hl hm hc;subst hl;have hao:=ha (by intro h;rw[h]at hlt;simp at hlt);subst hao;refine⟨_,hrun b p _ _ hv h0 h1,fun pt'' ow'' hag=>?_⟩;simp only[R];exact⟨b,p+n.toNat*esz,rfl,by rw[hk];exact hel n.toNat _ hxe⟩
    .exact he.elim
   .rename_i id e1;have hn:nd T o Y= [id]:=by simp[nd,ho,xg,e1]
    rw[hn,wp]at he;split at he
    .rename_i et k xs hb;simp at hb;split at he
     .obtain⟨⟨h0,h1⟩,he⟩:=he;refine qj h he hw (fun _ _=>True) fun M' pt' ow' S' hg' hs'=>?_
      have hx:=za (hs' pt' ow' (Agr.refl _ _ _)).1 x;rw[e1]at hx;simp only[R]at hx;obtain⟨hd,how,hbuf⟩:=hg'.buf id et k xs hb;have hv:=hx.2 hd how;rcases hbuf with ⟨hh,hxs⟩|⟨b,cap,cs,hh,_⟩
      .subst hxs;simp at h1;omega
      .rw[hh]at hv;refine⟨_,hrun b 0 _ _ hv h0 h1,fun pt'' ow'' hag=>?_⟩;simp only[R];refine⟨⟨_,rfl⟩,fun h' hh'=>?_⟩;have:=(hag id (by rw[hb];rfl)).2;rw[this,how]at hh';simp at hh';subst hh';exact⟨b,_,cap,hh,OC⟩
     .exact he.elim
    .exact he.elim
   .rename_i id0 s0 j0 m0 e1;split at he
    .rename_i hk;have hk:=(zb _ _).1 hk;subst hk;obtain⟨⟨h0,h1⟩,he⟩:=he;refine qj h he hw (fun _ _=>True) fun M' pt' ow' S' hg' hs'=>?_
     have hx:=za (hs' pt' ow' (Agr.refl _ _ _)).1 x;rw[e1]at hx;simp only[R]at hx;obtain⟨⟨b0,p0,cp,hv⟩,_⟩:=hx;refine⟨_,hrun b0 p0 m0 cp hv h0 h1,fun pt'' ow'' hag=>?_⟩;have hx':=za (hs' pt'' ow'' hag).1 x;rw[e1]at hx';simp only[R]at hx'⊢;refine⟨⟨_,rfl⟩,fun h' hh'=>?_⟩;obtain⟨b,m,c1,c2,hh1,hh2⟩:=hx'.2 h' hh';rw[hv]at hh2;simp only[Value.slice.injEq,Option.some.injEq,Addr.mk.injEq]at hh2;obtain⟨⟨rfl,rfl,_⟩,_,rfl⟩:=hh2;exact⟨_,m,c1,hh1,by rw[Nat.add_zero,Nat.add_mul]⟩
    .exact he.elim
   .exact he.elim
  .rename_i sz fs el esz len k0 ik z by_ eq;obtain⟨hu,inf,hinf,hsz,hpos⟩:=hti.array rfl;have hrun:∀p,a.eval x=.pointer (some p)->0<=n->n<len->(execOp a.eval o).run P w=.ok (.value (.pointer (some (p.add (n.toNat*esz))))) w:=fun p hv h0 h1=>by
    simp only[execOp,ho,Instr.indexAt,hi,asIntOf,qA,qB,q3,zae hu,hv,Instr.sureAddr,h0,h1,true_and,if_true,and_self,zcf hinf];rw[hsz]
   split at he
   .rename_i j off e1;obtain⟨⟨h0,h1⟩,he⟩:=he;refine qj h he hw (fun _ _=>True) fun M' pt' ow' S' hg' hs'=>?_
    have hx:=za (hs' pt' ow' (Agr.refl _ _ _)).1 x;rw[e1]at hx;simp only[R]at hx;obtain⟨p,hp⟩:=hx.1;refine⟨_,hrun p hp h0 h1,fun pt'' ow'' hag=>?_⟩;have hx':=za (hs' pt'' ow'' hag).1 x;rw[e1]at hx';simp only[R]at hx'⊢;refine⟨⟨_,rfl⟩,fun b hb=>?_⟩;have:=hx'.2 b hb;rw[hp]at this;simp at this;subst this;rw[wk]
   .rename_i k y off e1;obtain⟨⟨h0,h1⟩,he⟩:=he;refine qj h he hw (fun _ _=>True) fun M' pt' ow' S' hg' hs'=>?_
    have hx:=za (hs' pt' ow' (Agr.refl _ _ _)).1 x;rw[e1]at hx;simp only[R]at hx;obtain⟨b,p,hp,hat⟩:=hx;refine⟨_,hrun _ hp h0 h1,fun pt'' ow'' hag=>?_⟩;simp only[R];exact⟨b,p,by rw[wk,Nat.add_assoc],hat⟩
   .exact he.elim
  .exact he.elim
 .exact he.elim
end
