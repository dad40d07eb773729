/- The type table is right: a check that the kernel carries out. -/
import Derived.Test.YtlbmkjbgfkgcmaaGreatDoorTSxS
import Derived.Laws.StructEq
set_option linter.all false
open Bool renaming and_eq_true->q0,and_true->qC,not_eq_true'->qD,not_true->qE,false_or->qF
open List renaming length_append->q2,append_assoc->q3,eq_nil_of_length_eq_zero->q4,headD_cons->qA,mem_cons->qG
open Nat renaming beq->q1,le_of_ble_eq_true->qB
open Go.Result renaming andThen_ok->qH
open Go.Sem renaming run_bind->qI,run_pure->qJ
namespace Go.Sx
open Go
def zzk:AV->Value->Bool
 |.any,_=>true
 |.bool a,.bool b=>a==b
 |.int k a,.int k' b=>znd k k'&&a==b
 |.str [],.string s=>s.data.toList.isEmpty
 |.nilp,.pointer none=>true
 |.nilsl,.slice none n c=>q1 n 0&&q1 c 0
 |.nilf,.nilFunc =>true
 |.nilm,.map none=>true
 | _,_=>false
def zp6:List AV->List Value->Bool
 | [],[]=>true
 |a::l,v::vs=>zzk a v&&zp6 l vs
 | _,_=>false
def qc5(P:Program):List Field->List (Nat×Nat×Bool)->Bool
 | [],[]=>true
 |f::F,(o,s,a)::fs=>(q1 f.offset o&&Nat.ble 1 s&&(match P.info? f.type with
   |some inf=>q1 inf.size s
   |none=>false)&&(match P.underlying f.type with
   |some d=>zmn d==a
   |none=>false)&&(a||q1 s 1))&&qc5 P F fs
 | _,_=>false
def szB(P:Program)(t:TypeId)(s:Nat):Bool:=match P.info? t with
 |some inf=>q1 inf.size s
 |none=>false
def qbv(P:Program)(i:TI)(d:TypeDesc):Bool:=
 match i.cls,d with
 |1,.int k=>znd k i.ik
 |2,.struct F=>qc5 P F.toList i.fs
 |3,.slice e=>q1 e i.e&&szB P i.e i.esz
 |4,.array n e=>q1 n i.len&&q1 e i.e&&szB P i.e i.esz&&Nat.ble 1 i.esz
 |5,.string =>true
 |6,.bool =>true
 |7,.pointer _=>true
 |8,.func _ _ _=>true
 |9,.map a b=>q1 a i.e&&q1 b i.len
 | _,_=>false
def qfc(P:Program)(g:TypeId->List AV->Option (List AV)):List Field->Nat->List AV->Option (List AV)
 | [],_,z=>some z
 |f::fs,off,z=>match f.name != "_",q1 f.offset off,P.info? f.type,g f.type z with
  |true,true,some inf,some z'=>match q1 (z'.length+inf.size) z.length with
   |true=>qfc P g fs (off+inf.size) z'
   |false=>none
  | _,_,_,_=>none
def qfb(P:Program):Nat->TypeId->List AV->Option (List AV)
 |0,_,_=>none
 |d+1,t,z=>match P.underlying t,z with
  |some (.int _),.int .i64 _::z=>some z
  |some .string,.str _::z=>some z
  |some .bool,.bool _::z=>some z
  |some (.struct fs),z=>match P.stoodInHeld t with
   |false=>qfc P (qfb P d) fs.toList 0 z
   |true=>none
  | _,_=>none
def eqB(P:Program)(t:TypeId)(z:List AV):Bool:= !P.eqGuardType P.depth t&&(match P.underlying t with
 |some (.struct _)=>true
 | _=>false)&&(match qfb P 100 t z with
 |some []=>true
 | _=>false)
def tiB(P:Program)(t:TypeId)(i:TI):Bool:=
 (match P.info? t with
   |some inf=>q1 inf.size i.sz&&q1 inf.bytes i.bytes&&(match inf.zero with
    |some z=>q1 z.cells.toList.length i.sz&&zp6 i.z z.cells.toList&&(aggV z==i.agg)
    |none=>false)
   |none=>false)&&
 (match P.underlying t with
   |some d=>(zmn d==i.agg)&&(i.agg||q1 i.sz 1)&&qbv P i d
   |none=>false)&&(!i.eq||(q1 i.cls 2&&eqB P t i.z))
def qdq(P:Program):List (Nat×TI)->Bool
 | []=>true
 |(t,i)::r=>tiB P t i&&qdq P r
theorem zvj{ρ:Env}{a:AV}{v:Value}(h:zzk a v=true):R ρ a v:=by
 unfold zzk at h;split at h
 .simp[R]
 .simp[R];simpa using(by simpa using h:_=_).symm
 .simp only[q0,beq_iff_eq]at h;simp only[R];rw[zf0 h.1,h.2]
 .rename_i s;simp only[R];have:s.data= #[]:=by
   have h':s.data.toList= []:=by simpa using h
   apply Array.ext';simpa using h'
  cases s;simp_all
 .simp[R]
 .simp only[q0]at h;simp only[R];rw[(zd _ _).1 h.1,(zd _ _).1 h.2]
 .simp[R]
 .simp[R]
 .cases h
theorem znt{ρ:Env}:∀ {l:List AV}{vs:List Value},zp6 l vs=true->Rs ρ l vs
 | [],[],_=>by simp[Rs]
 |a::l,v::vs,h=>by
  simp only[zp6,q0]at h;simp only[Rs];exact⟨zvj h.1,znt h.2⟩
 | [],_::_,h=>by simp[zp6]at h
 | _::_,[],h=>by simp[zp6]at h
theorem zx8{P:Program}{t:TypeId}{s:Nat}(h:szB P t s=true):∃inf,P.info? t=some inf/\inf.size=s:=by
 unfold szB at h;split at h
 .rename_i inf e;exact⟨inf,e,(zd _ _).1 h⟩
 .cases h
theorem ztz{P:Program}:∀ {F:List Field}{fs:List (Nat×Nat×Bool)},qc5 P F fs=true->zc0 P F fs
 | [],[],_=>by simp[zc0]
 |f::F,(o,s,a)::fs,h=>by
  simp only[qc5,q0]at h;obtain⟨⟨⟨⟨⟨h1,h2⟩,h3⟩,h4⟩,h5⟩,h6⟩:=h;simp only[zc0];refine⟨⟨(zd _ _).1 h1,qB h2,?_⟩,ztz h6⟩;split at h3
  .rename_i inf e;split at h4
   .rename_i d e';refine⟨inf,d,e,(zd _ _).1 h3,e',by simpa using h4,fun ha=>?_⟩;subst ha;simp at h5;exact h5
   .cases h4
  .cases h3
 | [],_::_,h=>by simp[qc5]at h
 | _::_,[],h=>by simp[qc5]at h
theorem zki{l m:List AV}{k:Bool->Prop}(h:eqZ [] l m k):l= []/\m= []/\k true:=by
 cases l with
 |nil=>
  cases m with
  |nil=>exact⟨rfl,rfl,h⟩
  |cons b m=>exact False.elim h
 |cons a l=>exact False.elim h
theorem zhf{x:AV}{z l m:List AV}{k:Bool->Prop}(h:eqZ (x::z) l m k):
 (∃n a b l' m',x=.int .i64 n/\l=.int .i64 a::l'/\m=.int .i64 b::m'/\eqZ z l' m' fun r=>k (a==b&&r))\/
 (∃n a b l' m',x=.str n/\l=.str a::l'/\m=.str b::m'/\eqZ z l' m' fun r=>k (a==b&&r))\/
 (∃n a b l' m',x=.bool n/\l=.bool a::l'/\m=.bool b::m'/\eqZ z l' m' fun r=>k (a==b&&r)):=by
 cases x with
 |int kk n=>
  cases kk<;>first|exact False.elim h|skip
  cases l with
  |nil=>exact False.elim h
  |cons a l=>
   cases a with
   |int kk a=>
    cases kk<;>first|exact False.elim h|skip
    cases m with
    |nil=>exact False.elim h
    |cons b m=>
     cases b with
     |int kk b=>
      cases kk<;>first|exact False.elim h|skip
      exact .inl ⟨n,a,b,l,m,rfl,rfl,rfl,h⟩
     | _=>exact False.elim h
   | _=>exact False.elim h
 |str n=>
  cases l with
  |nil=>exact False.elim h
  |cons a l=>
   cases a with
   |str a=>
    cases m with
    |nil=>exact False.elim h
    |cons b m=>
     cases b with
     |str b=>exact .inr (.inl ⟨n,a,b,l,m,rfl,rfl,rfl,h⟩)
     | _=>exact False.elim h
   | _=>exact False.elim h
 |bool n=>
  cases l with
  |nil=>exact False.elim h
  |cons a l=>
   cases a with
   |bool a=>
    cases m with
    |nil=>exact False.elim h
    |cons b m=>
     cases b with
     |bool b=>exact .inr (.inr ⟨n,a,b,l,m,rfl,rfl,rfl,h⟩)
     | _=>exact False.elim h
   | _=>exact False.elim h
 | _=>exact False.elim h
theorem zt3:∀(z1 z2:List AV){l m:List AV}{k:Bool->Prop},eqZ (z1++z2) l m k->∃l1 l2 m1 m2,l=l1++l2/\m=m1++m2/\l1.length=z1.length/\m1.length=z1.length/\eqZ z1 l1 m1 fun a=>eqZ z2 l2 m2 fun b=>k (a&&b)
 | [],z2,l,m,k,h=>⟨[],l,[],m,rfl,rfl,rfl,rfl,by simpa[eqZ]using h⟩
 |x::z1,z2,l,m,k,h=>by
  simp only[List.cons_append]at h;rcases zhf h with ⟨n,a,b,l',m',rfl,rfl,rfl,h⟩|⟨n,a,b,l',m',rfl,rfl,rfl,h⟩|⟨n,a,b,l',m',rfl,rfl,rfl,h⟩
  all_goals
   obtain⟨l1,l2,m1,m2,rfl,rfl,h1,h2,h3⟩:=zt3 z1 z2 h;refine⟨_::l1,l2,_::m1,m2,rfl,rfl,by simp[h1],by simp[h2],?_⟩;simp only[eqZ,Bool.and_assoc];exact h3
def pkV(P:Program)(t:TypeId)(vs:List Value):Value:=match P.underlying t with
 |some (.struct _)=>.agg vs.toArray
 | _=>vs.headD undef
def EqS(P:Program)(d:Nat)(t:TypeId)(z z':List AV):Prop:=∃z1,z=z1++z'/\∀(l m:List AV)(k:Bool->Prop)(ρ:Env)(vs us:List Value),eqZ z1 l m k->Rs ρ l vs->Rs ρ m us->
 ∃r:Bool,k r/\∀w D,d<=D->(Op.equalIn D t (pkV P t vs) (pkV P t us)).run P w=.ok r w
theorem zom{P:Program}{t:TypeId}{inf:TypeInfo}{off:Nat}{pre vs post:List Value}{w:World}{d:TypeDesc}(hi:P.info? t=some inf)(hd:P.underlying t=some d)(hag:(∃fs,d=.struct fs)\/(zmn d=false/\vs.length=1))(hl:vs.length=inf.size)(ho:pre.length=off):
 (part t (pre++vs++post).toArray off).run P w=.ok (pkV P t vs) w:=by
 subst ho;unfold part;simp only[qI,rAgg hd,qH];rcases hag with ⟨fs,rfl⟩|⟨ha,h1⟩
 .simp only[zmn,if_true,qI,zcu hi,qH,qJ,pkV,hd,<-hl]
  congr 2
  apply Array.ext';simp[List.drop_append,List.take_append]
 .match vs,h1 with
  | [v],_=>
    simp only[ha,Bool.false_eq_true,if_false];have:(pre++ [v]++post).toArray[pre.length]? =some v:=OC;rw[this];simp only[qJ,pkV,hd];cases d<;>first|rfl|simp[zmn]at ha
theorem qbj(z:List AV):∀ {l m:List AV}{k:Bool->Prop},eqZ z l m k->l.length=z.length/\m.length=z.length:=by
 induction z with
 |nil=>intro l m k h;obtain⟨rfl,rfl,_⟩:=zki h;exact⟨rfl,rfl⟩
 |cons x z ih=>
  intro l m k h;rcases zhf h with ⟨n,a,b,l',m',rfl,rfl,rfl,h⟩|⟨n,a,b,l',m',rfl,rfl,rfl,h⟩|⟨n,a,b,l',m',rfl,rfl,rfl,h⟩
  all_goals
   have:=ih h;simp[this.1,this.2]
theorem zt5{P:Program}{d:Nat}{g:TypeId->List AV->Option (List AV)}(hg:∀t z z',g t z=some z'->EqS P d t z z'/\∃de,P.underlying t=some de/\((∃fs,de=.struct fs)\/(zmn de=false/\z.length=z'.length+1))):
 ∀(fs:List Field)(off:Nat)(z z':List AV),qfc P g fs off z=some z'->∃z1,z=z1++z'/\∀(l m:List AV)(k:Bool->Prop)(ρ:Env)(pre pre' vs us:List Value),eqZ z1 l m k->Rs ρ l vs->Rs ρ m us->pre.length=off->pre'.length=off->
  ∃r:Bool,k r/\∀w D,d<=D->(Op.eqFields D (pre++vs).toArray (pre'++us).toArray fs).run P w=.ok r w
 | [],off,z,z',h=>by
   simp only[qfc]at h;cases h
   refine⟨[],rfl,fun l m k ρ pre pre' vs us hz hl hm _ _=>?_⟩;have:=qbj _ hz;have h1:l= []:=q4 this.1;have h2:m= []:=q4 this.2;subst h1;subst h2;exact⟨true,by simpa[eqZ]using hz,fun w D _=>by simp[Op.eqFields]⟩
 |f::fs,off,z,z',h=>by
  simp only[qfc]at h;split at h
  .rename_i inf z2 hn ho hi hgf;split at h
   .rename_i hsz;have hsz:=(zd _ _).1 hsz;have ho:=(zd _ _).1 ho;obtain⟨⟨z1,e1,hq⟩,de,hde,hag⟩:=hg _ _ _ hgf;obtain⟨z3,e3,hrest⟩:=zt5 hg fs _ _ _ h;refine⟨z1++z3,by rw[e1,e3,q3],fun l m k ρ pre pre' vs us hz hl hm hp hp'=>?_⟩;obtain⟨l1,l2,m1,m2,rfl,rfl,hl1,hm1,hz'⟩:=zt3 z1 z3 hz;obtain⟨v1,v2,rfl,hv1,hv2⟩:=hl.split;obtain⟨u1,u2,rfl,hu1,hu2⟩:=hm.split;obtain⟨r1,hz2,hrun1⟩:=hq l1 m1 _ ρ v1 u1 hz' hv1 hu1;have hz1l:z1.length=inf.size:=by rw[e1,q2]at hsz;omega
    have hv1l:v1.length=inf.size:=by rw[<-hv1.length,hl1,hz1l]
    have hu1l:u1.length=inf.size:=by rw[<-hu1.length,hm1,hz1l]
    obtain⟨r2,hk,hrun2⟩:=hrest l2 m2 _ ρ (pre++v1) (pre'++u1) v2 u2 hz2 hv2 hu2 (by rw[q2,hp,hv1l]) (by rw[q2,hp',hu1l]);have hag1:(∃fs,de=.struct fs)\/(zmn de=false/\v1.length=1):=hag.imp id fun h=>⟨h.1,by have:=h.2;rw[e1,q2]at this;omega⟩
    have hag2:(∃fs,de=.struct fs)\/(zmn de=false/\u1.length=1):=hag.imp id fun h=>⟨h.1,by have:=h.2;rw[e1,q2]at this;omega⟩
    refine⟨r1&&r2,hk,fun w D hD=>?_⟩;have hn':f.name≠ "_" :=by simpa using hn
    have p1:=zom (P:=P) (w:=w) (pre:=pre) (vs:=v1) (post:=v2) hi hde hag1 hv1l (hp.trans ho.symm);have p2:=zom (P:=P) (w:=w) (pre:=pre') (vs:=u1) (post:=u2) hi hde hag2 hu1l (hp'.trans ho.symm);rw[q3]at p1 p2;have h2:=hrun2 w D hD;rw[q3,q3]at h2;simp only[Op.eqFields,Z6 hn',qI,p1,p2,qH,hrun1 w D hD];cases r1
    .simp
    .simpa using h2
   .cases h
  .cases h
theorem zt4{P:Program}:∀(d:Nat)(t:TypeId)(z z':List AV),qfb P d t z=some z'->EqS P d t z z'/\∃de,P.underlying t=some de/\((∃fs,de=.struct fs)\/(zmn de=false/\z.length=z'.length+1))
 |0,_,_,_,h=>by simp[qfb]at h
 |d+1,t,z,z',h=>by
  simp only[qfb]at h;split at h
  .rename_i kk n z2 hu;cases h
   refine⟨⟨[.int .i64 n],rfl,fun l m k ρ vs us hz hl hm=>?_⟩,_,hu,.inr ⟨rfl,rfl⟩⟩;rcases zhf hz with ⟨n',a,b,l,m,e,rfl,rfl,hz⟩|⟨n',a,b,l,m,e,rfl,rfl,hz⟩|⟨n',a,b,l,m,e,rfl,rfl,hz⟩<;>cases e
   obtain⟨rfl,rfl,hz⟩:=zki hz
   match vs,us,hl,hm with
   | [v],[u],hl,hm=>
     simp only[Rs,R]at hl hm;refine⟨a==b&&true,hz,fun w D hD=>?_⟩;obtain⟨D,rfl⟩:∃D',D=D'+1:=⟨D-1,O⟩;simp only[pkV,hu,qA,hl.1,hm.1,run_equalIn_int w D t .i64 kk a b hu,qC]
   | [],_,hl,_=>simp[Rs]at hl
   | _::_::_,_,hl,_=>simp[Rs]at hl
   | _,[],_,hm=>simp[Rs]at hm
   | _,_::_::_,_,hm=>simp[Rs]at hm
  .rename_i n z2 hu;cases h
   refine⟨⟨[.str n],rfl,fun l m k ρ vs us hz hl hm=>?_⟩,_,hu,.inr ⟨rfl,rfl⟩⟩;rcases zhf hz with ⟨n',a,b,l,m,e,rfl,rfl,hz⟩|⟨n',a,b,l,m,e,rfl,rfl,hz⟩|⟨n',a,b,l,m,e,rfl,rfl,hz⟩<;>cases e
   obtain⟨rfl,rfl,hz⟩:=zki hz
   match vs,us,hl,hm with
   | [v],[u],hl,hm=>
     simp only[Rs,R]at hl hm;refine⟨a==b&&true,hz,fun w D hD=>?_⟩;obtain⟨D,rfl⟩:∃D',D=D'+1:=⟨D-1,O⟩;simp only[pkV,hu,qA,hl.1,hm.1,run_equalIn_string w D t _ _ hu,qC];rw[ByteArray.toList_eq,ByteArray.toList_eq]
   | [],_,hl,_=>simp[Rs]at hl
   | _::_::_,_,hl,_=>simp[Rs]at hl
   | _,[],_,hm=>simp[Rs]at hm
   | _,_::_::_,_,hm=>simp[Rs]at hm
  .rename_i n z2 hu;cases h
   refine⟨⟨[.bool n],rfl,fun l m k ρ vs us hz hl hm=>?_⟩,_,hu,.inr ⟨rfl,rfl⟩⟩;rcases zhf hz with ⟨n',a,b,l,m,e,rfl,rfl,hz⟩|⟨n',a,b,l,m,e,rfl,rfl,hz⟩|⟨n',a,b,l,m,e,rfl,rfl,hz⟩<;>cases e
   obtain⟨rfl,rfl,hz⟩:=zki hz
   match vs,us,hl,hm with
   | [v],[u],hl,hm=>
     simp only[Rs,R]at hl hm;refine⟨a==b&&true,hz,fun w D hD=>?_⟩;obtain⟨D,rfl⟩:∃D',D=D'+1:=⟨D-1,O⟩;simp only[pkV,hu,qA,hl.1,hm.1,run_equalIn_bool' w D t a b hu,qC]
   | [],_,hl,_=>simp[Rs]at hl
   | _::_::_,_,hl,_=>simp[Rs]at hl
   | _,[],_,hm=>simp[Rs]at hm
   | _,_::_::_,_,hm=>simp[Rs]at hm
  .rename_i fs hu;split at h
   .rename_i hst;obtain⟨z1,e1,hq⟩:=zt5 (zt4 d) _ _ _ _ h;refine⟨⟨z1,e1,fun l m k ρ vs us hz hl hm=>?_⟩,_,hu,.inl ⟨fs,rfl⟩⟩;obtain⟨r,hk,hrun⟩:=hq l m k ρ [] [] vs us hz hl hm rfl rfl;refine⟨r,hk,fun w D hD=>?_⟩;obtain⟨D,rfl⟩:∃D',D=D'+1:=⟨D-1,O⟩;have hf:P.fieldsOf t=fs:=by simp[Program.fieldsOf,hu]
    simp only[pkV,hu];rw[run_equalIn_struct w D t _ _ (by rw[hf];exact hu) hst,hf];exact hrun w D O
   .cases h
  .cases h
theorem zyz{P:Program}{t:TypeId}{z:List AV}(h:eqB P t z=true):zxy P t z:=by
 simp only[eqB,q0,qD]at h;obtain⟨⟨h1,h2⟩,h3⟩:=h;refine⟨h1,?_⟩;split at h3
 .rename_i e;obtain⟨⟨z1,e1,hq⟩,_⟩:=zt4 _ _ _ _ e;rw[List.append_nil]at e1;subst e1;intro l m k ρ vs us hz hl hm;obtain⟨r,hk,hrun⟩:=hq l m k ρ vs.toList us.toList hz hl hm;refine⟨r,hk,fun w=>?_⟩;have:=hrun w 10000 O;split at h2
  .rename_i fs hu;simpa only[pkV,hu,Op.equal,Op.maxDepth]using this
  .cases h2
 .cases h3
theorem zha{P:Program}(x:zb7):∀(ks:List zb7)(es:List MapEntry)(i:Nat),es.map (·.key)=ks.map (zbe .str)->Instr.findNow .string (zbe .str x) es i=some (zhc .str x ks es i)
 | [],[],_,_=>rfl
 | [],_::_,_,h=>by simp at h
 | _::_,[],_,h=>by simp at h
 |k::ks,e::es,i,h=>by
  simp only[List.map_cons,List.cons.injEq]at h;have hb:((⟨x.toArray⟩:ByteArray)==⟨k.toArray⟩)=(x==k):=by
   rw[beq_toListBytes];simp[ByteArray.toList_eq]
  simp only[Instr.findNow,h.1,zbe,Instr.sameNow,zhc,zqo,hb];cases x==k
  .simp only[cond_false];exact zha (P:=P) x ks es (i+1) h.2
  .rfl
theorem zlr{P:Program}{t:TypeId}(hu:P.underlying t=some .string):KeyOK P t .str where
 kind:=.inl rfl
 chk w b x:=by
  show(Instr.checkKey b (9999+1) t (zbe .str x)).run P w=_;unfold Instr.checkKey;simp only[qI,zaj hu,qH,zbe,qJ]
 fnd w x ks es h:=by simp only[Instr.findKey,qI,zaj hu,qH,zha (P:=P) x ks es 0 h,qJ]
 stays w x y h:=by
  have:x=y:=by simpa[zqo]using h
  subst this;unfold Instr.keyThatStays;have:Instr.sameBits 10000 (zbe .str x) (zbe .str x)=true:=by
   show((⟨x.toArray⟩:ByteArray)==⟨x.toArray⟩)=true;rw[beq_toListBytes];exact beq_self_eq_true _
  rw[Z6 this,qJ]
theorem zxe{P:Program}{t:TypeId}{i:TI}{d:TypeDesc}(h:qbv P i d=true)(heq:i.eq=true->zxy P t i.z):zep P t i d:=by
 unfold qbv at h;unfold zep;split at h<;>first|(cases h;done)|(rename_i hc;rw[hc];simp only)
 .rw[zf0 h]
 .exact⟨_,rfl,ztz h,heq⟩
 .simp only[q0]at h;obtain⟨inf,h1,h2⟩:=zx8 h.2;exact⟨by rw[(zd _ _).1 h.1],inf,h1,h2⟩
 .simp only[q0]at h;obtain⟨inf,h1,h2⟩:=zx8 h.1.2;exact⟨by rw[(zd _ _).1 h.1.1.1,(zd _ _).1 h.1.1.2],inf,h1,h2,qB h.2⟩
 .rfl
 .rfl
 .simp only[q0]at h;rw[(zd _ _).1 h.1,(zd _ _).1 h.2]
theorem qdo{P:Program}{t:TypeId}{i:TI}(h:tiB P t i=true):TIOK P t i:=by
 simp only[tiB,q0]at h;obtain⟨⟨h1,h2⟩,h3⟩:=h;have heq:i.eq=true->zxy P t i.z:=fun he=>by
  rw[he]at h3;simp only[qE,qF,q0]at h3;exact zyz h3.2
 constructor
 .split at h1
  .rename_i inf e;simp only[q0]at h1;obtain⟨⟨h4,h5⟩,h6⟩:=h1;split at h6
   .rename_i z ez;simp only[q0]at h6;exact⟨inf,z,e,(zd _ _).1 h4,(zd _ _).1 h5,ez,by have:=(zd _ _).1 h6.1.1;simpa using this,fun ρ=>znt h6.1.2⟩
   .cases h6
  .cases h1
 .split at h2
  .rename_i d e;simp only[q0]at h2;obtain⟨⟨h4,h5⟩,h6⟩:=h2;refine⟨d,e,by simpa using h4,fun ha=>?_,zxe h6 heq⟩;rw[ha]at h5;simp at h5;exact h5
  .cases h2
 .intro he;rw[he]at h3;simp only[qE,qF,q0]at h3;exact(zd _ _).1 h3.1
 .intro inf z hi hz;rw[hi]at h1;simp only[q0,hz]at h1;simpa using h1.2.2
def zwy(P:Program)(T:List (Nat×TI)):List (Nat×TI)->Bool
 | []=>true
 |(_,i)::r=>(!q1 i.cls 9||((match P.underlying i.e with
  |some .string =>true
  | _=>false)&&T.all fun x=> !q1 x.1 i.e||(match x.2.k with
    |some .str =>true
    |none=>true
    | _=>false)))&&zwy P T r
theorem zo7{P:Program}{T:List (Nat×TI)}:∀ {L:List (Nat×TI)},zwy P T L=true->∀t i,(t,i)∈L->i.cls=9->∀j kk,(i.e,j)∈T->j.k=some kk->KeyOK P i.e kk
 | [],_,_,_,h,_,_,_,_,_=>by simp at h
 |(u,x)::r,h,t,i,hm,hc,j,kk,hj,hk=>by
  simp only[zwy,q0]at h;rcases qG.1 hm with e|hm
  .cases e
   have h1:=h.1;rw[hc]at h1;simp only[Bool.or_eq_true,qD,q0,List.all_eq_true]at h1;rcases h1 with h1|⟨h1,h2⟩
   .exact absurd h1 OA
   .have h3:=h2 _ hj;rcases h3 with h3|h3
    .rw[(zd _ _).2 rfl]at h3;cases h3
    .simp only[hk]at h3;have:kk=.str :=by cases kk<;>simp_all
     subst this;split at h1
     .rename_i hu;exact zlr hu
     .cases h1
  .exact zo7 h.2 t i hm hc j kk hj hk
theorem zmq{P:Program}:∀ {T:List (Nat×TI)},qdq P T=true->∀t i,(t,i)∈T->TIOK P t i
 | [],_,t,i,h=>by simp at h
 |(u,j)::r,h,t,i,hm=>by
  simp only[qdq,q0]at h;rcases qG.1 hm with e|hm
  .cases e;exact qdo h.1
  .exact zmq h.2 t i hm
theorem zfd{P:Program}{T:Tab}(h:qdq P T.ty=true)(hk:zwy P T.ty T.ty=true):TabOK P T:=⟨zmq h,zo7 hk⟩
