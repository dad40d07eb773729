/- Operators, conversions, indexes, lengths. -/
import Derived.Test.YtlbmkjbgfkgcmaaGreatDoorTSxF
set_option linter.all false
open List renaming toArray->q0
open Go.Builtin renaming len_->q1,max_->qG,max2->qH
open Go.Op renaming stringOp->q2,intCmp->q4,bytesLess->qC,equalIn->qD,intBits->qE,intArith->qF,equal->qI
open Go.Result renaming andThen_ok->q3
open Go.Sem renaming run_bind->qA,run_pure->qB
namespace Go.Sx
open Go
section
variable {P:Program} {T:Tab} {F:Wf} {C:Con} {c:Ctx} {o:Oper} {Y:St} {a:Act} {w:World} {E:AV->List Blk->Prop} {ids:List Nat} {bs:List Blk} {dst:Nat}
theorem zf0{k k':IntKind}(h:znd k k'=true):k=k':=by
 cases k<;>cases k'<;>simp[znd]at h<;>rfl
theorem qp(h:Rel c Y a w){b:BinOp}{t ty:TypeId}{x y:Operand}(ho:o.op=.binOp b t x y ty){r:AV}(hE:E r bs)(vx vy v:Value)
 (hx:a.eval x=vx) (hy:a.eval y=vy) (hg:(eqGuard b t x y vx vy).run P w=.ok () w) (hb:(binOp b t vx vy).run P w=.ok v w) (hr:∀ρ,R ρ r v):Snd P F T c o Y a w E:=by
 refine qy h hE (by simp[wr,ho]) v ?_ fun M pt ow S _ _ pt' ow' _=>hr _
 simp only[execOp,ho,hx,hy,qA,hg,q3,hb,qB]
theorem qz(b:BinOp)(t:TypeId)(x y:Operand)(k k':IntKind)(m n:Int):(eqGuard b t x y (.int k m) (.int k' n)).run P w=.ok () w:=by
 unfold eqGuard;cases b<;>simp
theorem xq(b:BinOp)(t:TypeId)(x y:Operand)(m n:ByteArray):(eqGuard b t x y (.string m) (.string n)).run P w=.ok () w:=by
 unfold eqGuard;cases b<;>simp
theorem zi1(b:BinOp)(t:TypeId)(x y:Operand)(m n:Bool):(eqGuard b t x y (.bool m) (.bool n)).run P w=.ok () w:=by
 unfold eqGuard;cases b<;>simp
theorem zlw(b:BinOp)(t:TypeId)(x y:Operand)(m n:Array Value)(hg:P.eqGuardType P.depth t=false):(eqGuard b t x y (.agg m) (.agg n)).run P w=.ok () w:=by
 have hp:(program).run P w=.ok P w:=rfl;unfold eqGuard;cases b<;>simp[hg,hp]
theorem rEqIn{t:TypeId}(hu:P.underlying t=some .bool)(m n:Bool)(d:Nat):(qD (d+1) t (.bool m) (.bool n)).run P w=.ok (m==n) w:=by
 simp[qD,zaj hu]
theorem zyd{t e:TypeId}(hu:P.underlying t=some (.slice e))(ao:Option Addr)(n cap d:Nat):(qD (d+1) t (.slice ao n cap) (.slice none 0 0)).run P w=.ok ao.isNone w:=by
 cases ao<;>simp[qD,zaj hu]
theorem zsl{t:TypeId}(hu:P.underlying t=some .bool)(m n:Bool):(qI t (.bool m) (.bool n)).run P w=.ok (m==n) w:=
 rEqIn hu m n 9999
theorem zrz(hT:TabOK P T)(h:Rel c Y a w){b:BinOp}{t ty:TypeId}{x y:Operand}(ho:o.op=.binOp b t x y ty)(he:qo T C (.binOp b t x y ty) dst (zm Y.sl) ids bs E):Snd P F T c o Y a w E:=by
 obtain⟨M,pt,ow,S,hg,hs,hr⟩:=h.own;have hx:=zc hr x;have hy:=zc hr y;simp only[qo]at he;obtain⟨i,hmem,he⟩:=qu _ _ _ he;have hi:=hT.ti _ _ hmem;unfold qb7 at he;split at he
 .rename_i k m k' n e1 e2;rw[e1]at hx;rw[e2]at hy;simp only[R]at hx hy;split at he
  .simp only[qa5]at he;obtain⟨h0,he⟩:=he;refine qp h ho he _ _ (.int k (k.wrap (m*2^min n.toNat k.bits))) hx hy (qz ..) ?_ (fun ρ=>by simp[R]);have:¬n<0:=O;simp[binOp,Op.shift,this]
  .simp only[qa5]at he;obtain⟨h0,he⟩:=he;refine qp h ho he _ _ (.int k (m.fdiv (2^min n.toNat k.bits))) hx hy (qz ..) ?_ (fun ρ=>by simp[R]);have:¬n<0:=O;simp[binOp,Op.shift,this]
  .rename_i hn1 hn2;split at he
   .rename_i hk;have hk:=zf0 hk;subst hk;have hint:∀v,(binOp b t (.int k m) (.int k n)).run P w=.ok v w->(binOp b t (.int k m) (.int k n)).run P w=.ok v w:=fun _ h=>h
    cases b<;>simp only[qa5]at he
    case shl=>exact absurd rfl hn1
    case shr=>exact absurd rfl hn2
    case add=>exact qp h ho he _ _ _ hx hy (qz ..) (by simp[binOp,qF];rfl) (fun ρ=>by simp[R])
    case sub=>exact qp h ho he _ _ _ hx hy (qz ..) (by simp[binOp,qF];rfl) (fun ρ=>by simp[R])
    case mul=>exact qp h ho he _ _ _ hx hy (qz ..) (by simp[binOp,qF];rfl) (fun ρ=>by simp[R])
    case quo=>exact qp h ho he.2 _ _ _ hx hy (qz ..) (by simp[binOp,Op.intDiv,he.1];rfl) (fun ρ=>by simp[R])
    case rem=>exact qp h ho he.2 _ _ _ hx hy (qz ..) (by simp[binOp,Op.intDiv,he.1];rfl) (fun ρ=>by simp[R])
    case and=>exact qp h ho he _ _ _ hx hy (qz ..) (by simp[binOp,qE];rfl) (fun ρ=>by simp[R])
    case or=>exact qp h ho he _ _ _ hx hy (qz ..) (by simp[binOp,qE];rfl) (fun ρ=>by simp[R])
    case xor=>exact qp h ho he _ _ _ hx hy (qz ..) (by simp[binOp,qE];rfl) (fun ρ=>by simp[R])
    case andNot=>exact qp h ho he _ _ _ hx hy (qz ..) (by simp[binOp,qE];rfl) (fun ρ=>by simp[R])
    case eql=>exact qp h ho he _ _ (.bool (m==n)) hx hy (qz ..) (by simp[binOp,q4]) (fun ρ=>by simp[R])
    case neq=>exact qp h ho he _ _ (.bool (m != n)) hx hy (qz ..) (by simp[binOp,q4]) (fun ρ=>by simp[R])
    case lss=>exact qp h ho he _ _ (.bool (m<n)) hx hy (qz ..) (by simp[binOp,q4]) (fun ρ=>by simp[R])
    case leq=>exact qp h ho he _ _ (.bool (m<=n)) hx hy (qz ..) (by simp[binOp,q4]) (fun ρ=>by simp[R])
    case gtr=>exact qp h ho he _ _ (.bool (m>n)) hx hy (qz ..) (by simp[binOp,q4]) (fun ρ=>by simp[R])
    case geq=>exact qp h ho he _ _ (.bool (m≥n)) hx hy (qz ..) (by simp[binOp,q4]) (fun ρ=>by simp[R])
   .exact he.elim
 .rename_i s s' e1 e2;rw[e1]at hx;rw[e2]at hy;simp only[R]at hx hy;cases b<;>simp only[strB]at he
  case add=>
   refine qp h ho he.2 _ _ (.string ⟨(s++s').toArray⟩) hx hy (xq ..) ?_ (fun ρ=>by simp[R]);have:(binOp .add t (.string ⟨s.toArray⟩) (.string ⟨s'.toArray⟩))=q2 .add ⟨s.toArray⟩ ⟨s'.toArray⟩:=rfl;rw[this,run_string_add_sum w _ _ (by have:=he.1;simp[ByteArray.size];omega),ByteArray.mk_append_mk]
  case eql=>exact qp h ho he _ _ (.bool (s==s')) hx hy (xq ..) (by simp[binOp,q2,Go.ByteArray.toList_eq]) (fun ρ=>by simp[R])
  case neq=>exact qp h ho he _ _ (.bool !(s==s')) hx hy (xq ..) (by simp[binOp,q2,Go.ByteArray.toList_eq]) (fun ρ=>by simp[R])
  case lss=>exact qp h ho he _ _ (.bool (qC s s')) hx hy (xq ..) (by simp[binOp,q2,Go.ByteArray.toList_eq]) (fun ρ=>by simp[R])
  case leq=>exact qp h ho he _ _ (.bool (qC s s'||s==s')) hx hy (xq ..) (by simp[binOp,q2,Go.ByteArray.toList_eq]) (fun ρ=>by simp[R])
  case gtr=>exact qp h ho he _ _ (.bool !(qC s s'||s==s')) hx hy (xq ..) (by simp[binOp,q2,Go.ByteArray.toList_eq]) (fun ρ=>by simp[R])
  case geq=>exact qp h ho he _ _ (.bool !qC s s') hx hy (xq ..) (by simp[binOp,q2,Go.ByteArray.toList_eq]) (fun ρ=>by simp[R])
 .rename_i m n e1 e2;rw[e1]at hx;rw[e2]at hy;simp only[R]at hx hy;split at he
  .have hu:=hi.bool ((zd _ _).1 (by assumption));exact qp h ho he _ _ (.bool (m==n)) hx hy (zi1 ..) (by simp[binOp,zsl hu]) (fun ρ=>by simp[R])
  .have hu:=hi.bool ((zd _ _).1 (by assumption));exact qp h ho he _ _ (.bool !(m==n)) hx hy (zi1 ..) (by simp[binOp,zsl hu]) (fun ρ=>by simp[R])
  .exact he.elim
 .rename_i kk xs e1 e2;rw[e1]at hx;rw[e2]at hy;simp only[R]at hx hy;have hsl:∃ao n cap,a.eval x=.slice ao n cap/\(ao=none->xs= []):=by
   cases hv:a.eval x<;>rw[hv]at hx<;>cases hx
   rename_i ao n cap b0 p hel ha hn hm hc;refine⟨ao,n,cap,rfl,fun e=>?_⟩;subst e
   cases xs with
   |nil=>rfl
   |cons y ys=>have:=ha OC;cases this
  obtain⟨ao,n,cap,hxe,hnil⟩:=hsl;have hgd:(eqGuard b t x y (.slice ao n cap) (.slice none 0 0)).run P w=.ok () w:=by
   unfold eqGuard;cases b<;>simp
  split at he
  .obtain⟨hu,_⟩:=hi.slice ((zd _ _).1 (by assumption));have heq:(qI t (.slice ao n cap) (.slice none 0 0)).run P w=.ok ao.isNone w:=by
    exact zyd hu ao n cap 9999
   refine qp h ho he _ _ (.bool ao.isNone) hxe hy hgd (by simp[binOp,heq]) (fun ρ=>?_);simp only[R];exact⟨_,rfl,fun e=>hnil (by simpa using e),fun _=>trivial⟩
  .obtain⟨hu,_⟩:=hi.slice ((zd _ _).1 (by assumption));have heq:(qI t (.slice ao n cap) (.slice none 0 0)).run P w=.ok ao.isNone w:=by
    exact zyd hu ao n cap 9999
   refine qp h ho he _ _ (.bool !ao.isNone) hxe hy hgd (by simp[binOp,heq]) (fun ρ=>?_);simp only[R];exact⟨_,rfl,fun _=>trivial,fun e=>hnil (by simpa using e)⟩
  .exact he.elim
 .rename_i l m e1 e2;rw[e1]at hx;rw[e2]at hy;simp only[R]at hx hy;obtain⟨vs,hx,hrx⟩:=hx;obtain⟨us,hy,hry⟩:=hy;split at he
  .rename_i heq;obtain⟨F,hu,_,hEq⟩:=hi.struct (hi.eq heq);obtain⟨hgd,hq⟩:=hEq heq;split at he
   .obtain⟨r,hE,hrun⟩:=hq l m _ _ vs us he hrx hry;exact qp h ho hE _ _ (.bool r) hx hy (zlw _ _ _ _ _ _ hgd) (by simp[binOp,hrun]) (fun ρ=>by simp[R])
   .obtain⟨r,hE,hrun⟩:=hq l m _ _ vs us he hrx hry;exact qp h ho hE _ _ (.bool !r) hx hy (zlw _ _ _ _ _ _ hgd) (by simp[binOp,hrun]) (fun ρ=>by simp[R])
   .exact he.elim
  .exact he.elim
 .exact he.elim
theorem zd5:∀(l:List AV)(n:Nat),zti l n=true->l.length=n
 | [],n,h=>by cases n<;>simp[zti]at h⊢
 |x::l,0,h=>by simp[zti]at h
 |x::l,n+1,h=>by simp only[zti]at h;simp[zd5 l n h]
theorem zmw(hT:TabOK P T)(h:Rel c Y a w){s d:TypeId}{x:Operand}(ho:o.op=.convert s d x)(he:qo T C (.convert s d x) dst (zm Y.sl) ids bs E):Snd P F T c o Y a w E:=by
 have hw:wr o.op=false:=by simp[wr,ho]
 obtain⟨M,pt,ow,S,hg,hs,hr⟩:=h.own;have hx:=zc hr x;simp only[qo]at he;obtain⟨j,hmj,he⟩:=qu _ _ _ he;obtain⟨i,hmi,he⟩:=qu _ _ _ he;have hj:=hT.ti _ _ hmj;have hi:=hT.ti _ _ hmi;split at he
 .rename_i k n e;rw[e]at hx;simp only[R]at hx;split at he
  .have h1:=hj.int rfl;have h2:=hi.int rfl;refine qy h he hw _ ?_ fun _ _ _ _ _ _ _ _ _=>by simp only[R];rfl
   simp[execOp,ho,hx,convert,zaj h1,zaj h2,Conv.intToInt]
  .exact he.elim
 .rename_i b e;rw[e]at hx;simp only[R]at hx;split at he
  .rename_i h1 h2;have h1:=hj.string ((zd _ _).1 h1);have h2:=hi.string ((zd _ _).1 h2);refine qy h he hw _ ?_ fun _ _ _ _ _ _ _ _ _=>by simp only[R];rfl
   simp[execOp,ho,hx,convert,zaj h1,zaj h2]
  .exact he.elim
 .exact he.elim
theorem zz3(hT:TabOK P T)(h:Rel c Y a w){cl:Call}(ho:o.op=.call cl)(hcl:cl.callee=.builtin .len)(he:qo T C (.call cl) dst (zm Y.sl) (nd T o Y) (qj Y.hp (nd T o Y)) E)
 (hmp:∀(x:Operand)(t:TypeId),cl.args= #[x]->cl.argTypes= #[t]->isMp (zm Y.sl x)=true->zh1 T t (fun _ _ _=>zqm (qj Y.hp (nd T o Y)) E)->Snd P F T c o Y a w E):Snd P F T c o Y a w E:=by
 have hw:wr o.op=false:=by simp[wr,ho,hcl]
 simp only[qo,hcl]at he;split at he
 .rename_i x t ha ht;split at he
  .rename_i hm;exact hmp x t (by have:=congrArg q0 ha;simpa using this) (by have:=congrArg q0 ht;simpa using this) hm he
  obtain⟨i,hmi,he⟩:=qu _ _ _ he;have hi:=hT.ti _ _ hmi;have hn:nd T o Y=(match zm Y.sl x with|.own id=> [id]|.mp id=> [id]| _=> []):=by simp only[nd,ho,xt,hcl,ha];rfl
  have ha':cl.args= #[x]:=by
   have:=congrArg q0 ha;simpa using this
  have ht':cl.argTypes= #[t]:=by
   have:=congrArg q0 ht;simpa using this
  have hrun:∀v,(q1 #[t] o.type #[a.eval x]).run P w=.ok v w->(execOp a.eval o).run P w=.ok (.value v) w:=fun v hv=>by
   simp[execOp,ho,resolve,hcl,ha',ht',invoke,builtin,hv]
  obtain⟨M,pt,ow,S,hg,hs,hr⟩:=h.own;have hx:=zc hr x;unfold zlm at he;split at he
  .rename_i s e;rw[e]at hx;simp only[R]at hx;split at he
   .rename_i hc;have hu:=hi.string ((zd _ _).1 hc);refine qy h he hw (.int .i64 s.length) (hrun _ ?_) fun _ _ _ _ _ _ _ _ _=>by simp only[R]
    have hsz:(⟨s.toArray⟩:ByteArray).size =s.length:=by simp[ByteArray.size]
    simp[q1,hx,zaj hu,goInt,hsz]
   .exact he.elim
  .rename_i k xs e;rw[e]at hx;simp only[R]at hx;split at he
   .rename_i hc;have hu:=(hi.slice ((zd _ _).1 hc)).1;cases hv:a.eval x<;>rw[hv]at hx<;>cases hx
    rename_i ao n cap b p _ _ hn' _ _;subst hn';refine qy h he hw (.int .i64 xs.length) (hrun _ ?_) fun _ _ _ _ _ _ _ _ _=>by simp only[R]
    simp[q1,hv,zaj hu,goInt]
   .exact he.elim
  .rename_i e;rw[e]at hx;simp only[R]at hx;split at he
   .rename_i hc;have hu:=(hi.slice ((zd _ _).1 hc)).1;refine qy h he hw (.int .i64 0) (hrun _ ?_) fun _ _ _ _ _ _ _ _ _=>by simp only[R]
    simp[q1,hx,zaj hu,goInt]
   .exact he.elim
  .rename_i i0 s0 j0 n0 e;rw[e]at hx;simp only[R]at hx;obtain⟨⟨b0,p0,cp,hv⟩,_⟩:=hx;split at he
   .rename_i hc;have hu:=(hi.slice ((zd _ _).1 hc)).1;refine qy h he hw (.int .i64 n0) (hrun _ ?_) fun _ _ _ _ _ _ _ _ _=>by simp only[R]
    simp[q1,hv,zaj hu,goInt]
   .exact he.elim
  .rename_i id e;have hn':nd T o Y= [id]:=by rw[hn,e]
   rw[hn',jb]at he;rw[e]at hx;simp only[R]at hx;split at he
   .rename_i hc hb;have hu:=(hi.slice ((zd _ _).1 hc)).1;rename_i et k xs;simp at hb;obtain⟨hd,how,hbuf⟩:=hg.buf id et k xs hb;have hv:=hx.2 hd how;refine qy h he hw (.int .i64 xs.length) (hrun _ ?_) fun _ _ _ _ _ _ _ _ _=>by simp only[R]
    rcases hbuf with ⟨hh,hxs⟩|⟨b,cap,cs,hh,_⟩
    .rw[hh]at hv;simp[q1,hv,zaj hu,goInt,hxs]
    .rw[hh]at hv;simp[q1,hv,zaj hu,goInt]
   .exact he.elim
  .exact he.elim
 .exact he.elim
theorem zql{ρ:Operand->AV}{l:List Operand}{u v s:AV}(h:xf ρ l= [u,v,s]):∃x y z,l= [x,y,z]/\ρ x=u/\ρ y=v/\ρ z=s:=by
 match l,h with
 | [x,y,z],h=>simp[xf]at h;exact⟨x,y,z,rfl,h.1,h.2.1,h.2.2⟩
 | [],h=>simp[xf]at h
 | [_],h=>simp[xf]at h
 | [_,_],h=>simp[xf]at h
 | _::_::_::_::_,h=>simp[xf]at h
theorem zo4{ρ:Operand->AV}{l:List Operand}{u v:AV}(h:xf ρ l= [u,v]):∃x y,l= [x,y]/\ρ x=u/\ρ y=v:=by
 match l,h with
 | [x,y],h=>simp[xf]at h;exact⟨x,y,rfl,h.1,h.2⟩
 | [],h=>simp[xf]at h
 | [_],h=>simp[xf]at h
 | _::_::_::_,h=>simp[xf]at h
theorem zz2(h:Rel c Y a w){cl:Call}(ho:o.op=.call cl)(hcl:cl.callee=.builtin .max)(he:qo T C (.call cl) dst (zm Y.sl) ids bs E):Snd P F T c o Y a w E:=by
 have hw:wr o.op=false:=by simp[wr,ho,hcl]
 obtain⟨M,pt,ow,S,hg,hs,hr⟩:=h.own;simp only[qo,hcl]at he;split at he
 .rename_i k m k' n e;obtain⟨x,y,hl,h1,h2⟩:=zo4 e;have hx:=zc hr x;have hy:=zc hr y;rw[h1]at hx;rw[h2]at hy;simp only[R]at hx hy;have ha':cl.args= #[x,y]:=by
   have:=congrArg q0 hl;simpa using this
  refine qy h he hw (.int k (if n>m then n else m)) ?_ fun _ _ _ _ _ _ _ _ _=>by simp only[R]
  simp[execOp,ho,resolve,hcl,ha',invoke,builtin,qG,qH,hx,hy]
 .rename_i k m k' n k'' q e;obtain⟨x,y,z,hl,h1,h2,h3⟩:=zql e;have hx:=zc hr x;have hy:=zc hr y;have hz:=zc hr z;rw[h1]at hx;rw[h2]at hy;rw[h3]at hz;simp only[R]at hx hy hz;have ha':cl.args= #[x,y,z]:=by
   have:=congrArg q0 hl;simpa using this
  refine qy h he hw (.int k (if q>(if n>m then n else m)then q else if n>m then n else m)) ?_ fun _ _ _ _ _ _ _ _ _=>by simp only[R]
  simp[execOp,ho,resolve,hcl,ha',invoke,builtin,qG,qH,hx,hy,hz]
 .exact he.elim
theorem zz1(h:Rel c Y a w){cl:Call}(ho:o.op=.call cl)(hcl:cl.callee=.builtin .min)(he:qo T C (.call cl) dst (zm Y.sl) ids bs E):Snd P F T c o Y a w E:=by
 have hw:wr o.op=false:=by simp[wr,ho,hcl]
 obtain⟨M,pt,ow,S,hg,hs,hr⟩:=h.own;simp only[qo,hcl]at he;split at he
 .rename_i k m k' n e;obtain⟨x,y,hl,h1,h2⟩:=zo4 e;have hx:=zc hr x;have hy:=zc hr y;rw[h1]at hx;rw[h2]at hy;simp only[R]at hx hy;have ha':cl.args= #[x,y]:=by
   have:=congrArg q0 hl;simpa using this
  refine qy h he hw (.int k (if n<m then n else m)) ?_ fun _ _ _ _ _ _ _ _ _=>by simp only[R]
  simp[execOp,ho,resolve,hcl,ha',invoke,builtin,Builtin.min_,Builtin.min2,hx,hy]
 .exact he.elim
theorem zrv(hT:TabOK P T)(h:Rel c Y a w){t:TypeId}{x i:Operand}(ho:o.op=.index t x i)(he:qo T C (.index t x i) dst (zm Y.sl) ids bs E):Snd P F T c o Y a w E:=by
 have hw:wr o.op=false:=by simp[wr,ho]
 obtain⟨M,pt,ow,S,hg,hs,hr⟩:=h.own;have hx:=zc hr x;have hi:=zc hr i;simp only[qo]at he;obtain⟨ti,hmi,he⟩:=qu _ _ _ he;have hti:=hT.ti _ _ hmi;split at he
 .rename_i s k n hc e1 e2;rw[e1]at hx;rw[e2]at hi;simp only[R]at hx hi;obtain⟨⟨h0,h1⟩,he⟩:=he;have hlt:n.toNat<s.length:=O;have hc':s[n.toNat]? =some s[n.toNat]:=by simp[hlt]
  have hu:=hti.string ((zd _ _).1 hc);refine qy h (he _ hc') hw (.int .u8 (s[n.toNat]).toNat) ?_ fun _ _ _ _ _ _ _ _ _=>by simp only[R]
  have hget:(⟨s.toArray⟩:ByteArray)[n.toNat]? =some s[n.toNat]:=by
   have hsz:(⟨s.toArray⟩:ByteArray).size =s.length:=by simp[ByteArray.size]
   rw[getElem?_pos _ _ (by rw[hsz];exact hlt)];rfl
  simp[execOp,ho,hx,hi,Instr.index,asIntOf,zaj hu,h0,hget]
 .rename_i l k n hc e1 e2;split at he
  .rename_i hc4;rw[e1]at hx;rw[e2]at hi;simp only[R]at hx hi;obtain⟨tj,hmj,he⟩:=qu _ _ _ he;obtain⟨⟨h0,h1⟩,he⟩:=he;obtain⟨hu,inf',hinf',hsz',_⟩:=hti.array ((zd _ _).1 hc4);have htj:=hT.ti _ _ hmj;obtain⟨inf,z,hinf,hs0,_⟩:=htj.inf;obtain⟨d,hd,ha,h3,_⟩:=htj.und;obtain⟨vs,hv,hrs⟩:=hx;obtain⟨r,v,hE,hrun,_,_,hrv⟩:=qd5 (P:=P) hinf hd _ hs0 ha h3 hrs he;refine qy h hE hw v ?_ fun M' pt' ow' S' hg' hs' pt'' ow'' hag=>?_
   .simp only[execOp,ho,Instr.index,hi,asIntOf,qA,zaj hu,q3,hv,h0,h1,true_and,and_self,if_true,zcu hinf',hsz',qB,hrun]
   .have hx':=zc (hs' pt'' ow'' hag).1 x;rw[e1,hv]at hx';simp only[R]at hx';obtain⟨vs',hv',hrs'⟩:=hx';simp at hv';subst hv';exact hrv _ hrs'
  .exact he.elim
 .exact he.elim
theorem zjj(hT:TabOK P T)(h:Rel c Y a w){t:TypeId}{x i:Operand}(ho:o.op=.indexAddr t x i)(he:qo T C (.indexAddr t x i) dst (zm Y.sl) (nd T o Y) (qj Y.hp (nd T o Y)) E):Snd P F T c o Y a w E:=by
 have hw:wr o.op=false:=by simp[wr,ho]
 obtain⟨M,pt,ow,S,hg,hs,hr⟩:=h.own;have hi:=zc hr i;simp only[qo]at he;obtain⟨ti,hmi,he⟩:=qu _ _ _ he;have hti:=hT.ti _ _ hmi;split at he
 .rename_i kk n e2;rw[e2]at hi;simp only[R]at hi;split at he
  .rename_i sz fs el esz len k0 ik z by_ eq;obtain⟨hu,inf,hinf,hsz⟩:=hti.slice rfl;have hrun:∀b p l cap,a.eval x=.slice (some ⟨b,p,none⟩) l cap->0<=n->n<l->(execOp a.eval o).run P w=.ok (.value (.pointer (some ⟨b,p+n.toNat*esz,none⟩))) w:=fun b p l cap hv h0 h1=>by
    simp only[execOp,ho,Instr.indexAt,hi,asIntOf,qA,qB,q3,zaj hu,hv,h0,h1,true_and,if_true,and_self,zcu hinf,wt];rw[hsz]
   split at he
   .rename_i k xs e1;split at he
    .rename_i hk;have hk:=(zd _ _).1 hk;obtain⟨⟨h0,h1⟩,he⟩:=he;have hlt:n.toNat<xs.length:=O;have hxe:xs[n.toNat]? =some xs[n.toNat]:=by simp[hlt]
     refine qk h (he _ hxe) hw (fun _ _=>True) fun M' pt' ow' S' hg' hs'=>?_
     have hx:=zc (hs' pt' ow' (Agr.refl _ _ _)).1 x;rw[e1]at hx;simp only[R]at hx;cases hv:a.eval x<;>rw[hv]at hx<;>cases hx
     rename_i ao l cap b p hel ha hl hm hc;subst hl;have hao:=ha (by intro h;rw[h]at hlt;simp at hlt);subst hao;refine⟨_,hrun b p _ _ hv h0 h1,fun pt'' ow'' hag=>?_⟩;simp only[R];exact⟨b,p+n.toNat*esz,rfl,by rw[hk];exact hel n.toNat _ hxe⟩
    .exact he.elim
   .rename_i id e1;have hn:nd T o Y= [id]:=by simp[nd,ho,xt,e1]
    rw[hn,jb]at he;split at he
    .rename_i et k xs hb;simp at hb;split at he
     .obtain⟨⟨h0,h1⟩,he⟩:=he;refine qk h he hw (fun _ _=>True) fun M' pt' ow' S' hg' hs'=>?_
      have hx:=zc (hs' pt' ow' (Agr.refl _ _ _)).1 x;rw[e1]at hx;simp only[R]at hx;obtain⟨hd,how,hbuf⟩:=hg'.buf id et k xs hb;have hv:=hx.2 hd how;rcases hbuf with ⟨hh,hxs⟩|⟨b,cap,cs,hh,_⟩
      .subst hxs;simp at h1;omega
      .rw[hh]at hv;refine⟨_,hrun b 0 _ _ hv h0 h1,fun pt'' ow'' hag=>?_⟩;simp only[R];refine⟨⟨_,rfl⟩,fun h' hh'=>?_⟩;have:=(hag id (by rw[hb];rfl)).2;rw[this,how]at hh';simp at hh';subst hh';exact⟨b,_,cap,hh,OC⟩
     .exact he.elim
    .exact he.elim
   .rename_i id0 s0 j0 m0 e1;split at he
    .rename_i hk;have hk:=(zd _ _).1 hk;subst hk;obtain⟨⟨h0,h1⟩,he⟩:=he;refine qk h he hw (fun _ _=>True) fun M' pt' ow' S' hg' hs'=>?_
     have hx:=zc (hs' pt' ow' (Agr.refl _ _ _)).1 x;rw[e1]at hx;simp only[R]at hx;obtain⟨⟨b0,p0,cp,hv⟩,_⟩:=hx;refine⟨_,hrun b0 p0 m0 cp hv h0 h1,fun pt'' ow'' hag=>?_⟩;have hx':=zc (hs' pt'' ow'' hag).1 x;rw[e1]at hx';simp only[R]at hx'⊢;refine⟨⟨_,rfl⟩,fun h' hh'=>?_⟩;obtain⟨b,m,c1,c2,hh1,hh2⟩:=hx'.2 h' hh';rw[hv]at hh2;simp only[Value.slice.injEq,Option.some.injEq,Addr.mk.injEq]at hh2;obtain⟨⟨rfl,rfl,_⟩,_,rfl⟩:=hh2;exact⟨_,m,c1,hh1,by rw[Nat.add_zero,Nat.add_mul]⟩
    .exact he.elim
   .exact he.elim
  .rename_i sz fs el esz len k0 ik z by_ eq;obtain⟨hu,inf,hinf,hsz,hpos⟩:=hti.array rfl;have hrun:∀p,a.eval x=.pointer (some p)->0<=n->n<len->(execOp a.eval o).run P w=.ok (.value (.pointer (some (p.add (n.toNat*esz))))) w:=fun p hv h0 h1=>by
    simp only[execOp,ho,Instr.indexAt,hi,asIntOf,qA,qB,q3,zaj hu,hv,Instr.sureAddr,h0,h1,true_and,if_true,and_self,zcu hinf];rw[hsz]
   split at he
   .rename_i j off e1;obtain⟨⟨h0,h1⟩,he⟩:=he;refine qk h he hw (fun _ _=>True) fun M' pt' ow' S' hg' hs'=>?_
    have hx:=zc (hs' pt' ow' (Agr.refl _ _ _)).1 x;rw[e1]at hx;simp only[R]at hx;obtain⟨p,hp⟩:=hx.1;refine⟨_,hrun p hp h0 h1,fun pt'' ow'' hag=>?_⟩;have hx':=zc (hs' pt'' ow'' hag).1 x;rw[e1]at hx';simp only[R]at hx'⊢;refine⟨⟨_,rfl⟩,fun b hb=>?_⟩;have:=hx'.2 b hb;rw[hp]at this;simp at this;subst this;rw[wt]
   .rename_i k y off e1;obtain⟨⟨h0,h1⟩,he⟩:=he;refine qk h he hw (fun _ _=>True) fun M' pt' ow' S' hg' hs'=>?_
    have hx:=zc (hs' pt' ow' (Agr.refl _ _ _)).1 x;rw[e1]at hx;simp only[R]at hx;obtain⟨b,p,hp,hat⟩:=hx;refine⟨_,hrun _ hp h0 h1,fun pt'' ow'' hag=>?_⟩;simp only[R];exact⟨b,p,by rw[wt,Nat.add_assoc],hat⟩
   .exact he.elim
  .exact he.elim
 .exact he.elim
end
