/- The seat's type table; how a contract is proved. -/
import Derived.Test.YthbgbmdmimejiaaGreatDoorJZz
import Derived.Test.YthbgbmdmimejiaaGreatDoorChecked
import Derived.Laws.Externs
import Derived.Tactics
set_option linter.all false
open And renaming intro->q1
open List renaming getElem?_eq_some_iff->q0,drop_eq_getElem_cons->q2,drop_of_length_le->q3,mem_of_getElem?->q4,length_cons->q5,mem_cons->q6
namespace Go.Proofs.YthbgbmdmimejiaaGreatDoor
open Go Go.Sx
def Ty:List (Nat×TI):= [
 (3,⟨1,1,[],0,0,0,some .int,.i64,[.int .i64 0],8,false⟩),
 (33,⟨2,3,[(0,1,false),(1,1,false),(2,1,false)],0,0,0,some .dy,.i64,[.bool false,.nilsl,.int .i64 0],40,false⟩),
 (35,⟨2,7,[(0,3,true),(3,3,true),(6,1,false)],0,0,0,some .iv,.i64,[.bool false,.nilsl,.int .i64 0,.bool false,.nilsl,.int .i64 0,.bool false],88,false⟩),
 (26,⟨2,6,[(0,1,false),(1,2,true),(3,1,false),(4,1,false),(5,1,false)],0,0,0,some .ex,.i64,[.int .i64 0,.int .i64 0,.int .i64 0,.str [],.int .i64 0,.nilsl],72,false⟩),
 (31,⟨3,1,[],137,1,0,some .ls,.i64,[.nilsl],24,false⟩),
 (218,⟨2,2,[(0,1,false),(1,1,false)],0,0,0,none,.i64,[.bool false,.nilsl],32,false⟩),
 (4,⟨6,1,[],0,0,0,some .bool,.i64,[.bool false],1,false⟩),
 (9,⟨5,1,[],0,0,0,some .str,.i64,[.str []],16,false⟩),
 (27,⟨3,1,[],9,1,0,none,.i64,[.nilsl],24,false⟩),
 (23,⟨2,2,[(0,1,false),(1,1,false)],0,0,0,some .rat,.i64,[.int .i64 0,.int .i64 0],16,true⟩),
 (137,⟨1,1,[],0,0,0,some .u32,.u32,[.int .u32 0],4,false⟩),
 (146,⟨1,1,[],0,0,0,none,.u64,[.int .u64 0],8,false⟩),
 (24,⟨3,1,[],26,6,0,none,.i64,[.nilsl],24,false⟩),
 (44,⟨2,3,[(0,1,false),(1,1,false),(2,1,false)],0,0,0,none,.i64,[.int .i64 0,.nilsl,.nilsl],56,false⟩),
 (75,⟨2,6,[(0,1,false),(1,1,false),(2,1,false),(3,1,false),(4,2,true)],0,0,0,some .op,.i64,[.int .i64 0,.int .i64 0,.int .i64 0,.int .i64 0,.int .i64 0,.int .i64 0],48,true⟩),
 (28,⟨3,1,[],35,7,0,some .vs,.i64,[.nilsl],24,false⟩),
 (41,⟨3,1,[],75,6,0,none,.i64,[.nilsl],24,false⟩),
 (42,⟨3,1,[],3,1,0,none,.i64,[.nilsl],24,false⟩),
 (189,⟨2,1,[(0,1,false)],0,0,0,none,.i64,[.int .i64 0],8,true⟩),
 (180,⟨2,3,[(0,1,false),(1,1,false),(2,1,false)],0,0,0,none,.i64,[.nilsl,.int .i64 0,.bool false],40,false⟩),
 (45,⟨1,1,[],0,0,0,none,.i64,[.int .i64 0],8,false⟩),
 (5,⟨1,1,[],0,0,0,none,.u8,[.int .u8 0],1,false⟩),
 (235,⟨1,1,[],0,0,0,none,.u64,[.int .u64 0],8,false⟩),
 (84,⟨2,4,[(0,3,true),(3,1,false)],0,0,0,none,.i64,[.int .i64 0,.nilsl,.nilsl,.nilm],64,false⟩),
 (59,⟨2,7,[(0,1,false),(1,6,true)],0,0,0,some .eqn,.i64,[.str [],.int .i64 0,.int .i64 0,.int .i64 0,.str [],.int .i64 0,.nilsl],88,false⟩),
 (182,⟨4,6,[],33,3,2,some .dd,.i64,[.bool false,.nilsl,.int .i64 0,.bool false,.nilsl,.int .i64 0],80,false⟩),
 (232,⟨3,1,[],31,1,0,none,.i64,[.nilsl],24,false⟩),
 (60,⟨3,1,[],59,7,0,none,.i64,[.nilsl],24,false⟩),
 (153,⟨1,1,[],0,0,0,none,.u64,[.int .u64 0],8,false⟩),
 (210,⟨3,1,[],33,3,0,none,.i64,[.nilsl],24,false⟩),
 (90,⟨3,1,[],28,1,0,none,.i64,[.nilsl],24,false⟩),
 (78,⟨7,1,[],84,0,0,none,.i64,[.nilp],8,false⟩),
 (30,⟨8,1,[],0,0,0,none,.i64,[.nilf],8,false⟩),
 (183,⟨4,24,[],182,6,4,none,.i64,[.bool false,.nilsl,.int .i64 0,.bool false,.nilsl,.int .i64 0,.bool false,.nilsl,.int .i64 0,.bool false,.nilsl,.int .i64 0,.bool false,.nilsl,.int .i64 0,.bool false,.nilsl,.int .i64 0,.bool false,.nilsl,.int .i64 0,.bool false,.nilsl,.int .i64 0],320,false⟩),
 (64,⟨9,1,[],9,0,35,none,.i64,[.nilm],8,false⟩),
 (103,⟨4,14,[],35,7,2,none,.i64,[.bool false,.nilsl,.int .i64 0,.bool false,.nilsl,.int .i64 0,.bool false,.bool false,.nilsl,.int .i64 0,.bool false,.nilsl,.int .i64 0,.bool false],176,false⟩),
 (98,⟨7,1,[],3,0,0,none,.i64,[.nilp],8,false⟩),
 (94,⟨9,1,[],9,0,4,none,.i64,[.nilm],8,false⟩),
 (249,⟨4,32,[],5,1,32,none,.i64,[.int .u8 0,.int .u8 0,.int .u8 0,.int .u8 0,.int .u8 0,.int .u8 0,.int .u8 0,.int .u8 0,.int .u8 0,.int .u8 0,.int .u8 0,.int .u8 0,.int .u8 0,.int .u8 0,.int .u8 0,.int .u8 0,.int .u8 0,.int .u8 0,.int .u8 0,.int .u8 0,.int .u8 0,.int .u8 0,.int .u8 0,.int .u8 0,.int .u8 0,.int .u8 0,.int .u8 0,.int .u8 0,.int .u8 0,.int .u8 0,.int .u8 0,.int .u8 0],32,false⟩),
 (201,⟨1,1,[],0,0,0,none,.i64,[.int .i64 0],8,false⟩)]
def T:Tab:= {ty:=Ty,of:= [116,117],nb:= [(59,1),(117,1),(78,1),(79,1),(127,1)]}
theorem hmx:Tryz.prog.follows .mixedOrders =true:=Z
theorem hT:TabOK Tryz.prog T:=ze7 Z Z
abbrev Fn(f:Nat)(H:Hp)(A:List AV)(r:AV)(H':Hp):Prop:=zcm Tryz.prog f H A r H'
set_option maxRecDepth 100000
set_option maxHeartbeats 1000000
theorem f105(n:Int)(h: -9223372036854775808<=n/\n<=9223372036854775807):Fn 122 [] [.int .i64 n] (.int .u64 (n.natAbs:Int)) []:=by
 refine fnT hT hmx Tryz.func122 rfl rfl (ex:= []) ?_;conv=>whnf
 refine brI (fun hb=>?_) (fun hb=>?_)
 .conv=>whnf
  simp at hb;refine⟨ai0 ?_,lh0⟩;rcases Decidable.em (n= -9223372036854775808)with e|e
  .subst e;rfl
  .rw[wI O,wU O];omega
 .conv=>whnf
  simp at hb;refine⟨ai0 ?_,lh0⟩;rw[wU O];omega
theorem f104(a b:Nat)(ha:a<18446744073709551616)(hb:b<18446744073709551616):Fn 121 [] [.int .u64 a,.int .u64 b] (.int .u64 (Nat.gcd a b:Int)) []:=by
 refine fnT hT hmx Tryz.func121 rfl rfl (ex:= []) ?_;conv=>whnf
 refine⟨Nat×Nat,fun x=>Nat.gcd x.1 x.2=Nat.gcd a b/\x.1<18446744073709551616/\x.2<18446744073709551616,fun x=> [(0,.int .u64 x.1),(1,.int .u64 x.2)],fun _=> [],fun x=>x.2,(a,b),⟨rfl,ha,hb⟩,?_,fun x hx=>?_⟩
 ·((conv=>whnf);refine⟨?_,lh0⟩;repeat' first|exact ln0|exact la0|exact lr rfl|refine lc ?_ ?_)
 .obtain⟨hg,h1,h2⟩:=hx;refine gYe ?_;refine brI (fun hb=>?_) (fun hb=>?_)
  .conv=>whnf
   simp at hb;refine⟨O,?_⟩;conv=>whnf
   refine gYd ?_;refine⟨(x.2,x.1 % x.2),⟨?_,h2,?_⟩,?_,?_⟩
   .rw[<-hg];show Nat.gcd x.2 (x.1 % x.2)=_;rw[Nat.gcd_comm x.1 x.2,Nat.gcd_comm x.2 (x.1 % x.2)];exact(Nat.gcd_rec _ _).symm
   .have:=Nat.mod_lt x.1 (Nat.pos_of_ne_zero hb);omega
   .exact Nat.mod_lt x.1 (Nat.pos_of_ne_zero hb)
   ·((conv=>whnf);refine⟨?_,lh0⟩;repeat' first|exact ln0|exact la0|exact lr rfl|refine lc ?_ ?_)
  .conv=>whnf
   simp at hb;refine⟨ai0 ?_,lh0⟩;rw[<-hg,hb,Nat.gcd_zero_right]
def rIn(r:Rt):Prop:=1<=r.d/\r.d<=1073741824/\ -1073741824<=r.n/\r.n<=1073741824
instance (r:Rt):Decidable (rIn r):=by unfold rIn;infer_instance
def rOk(r:Rt):Bool:=decide (rIn r)&&(Nat.gcd r.n.natAbs r.d.natAbs==1)
theorem zna{r:Rt}(h:¬rIn r):false=rOk r:=by simp[rOk,h]
theorem f54(n d:Int):Fn 81 [] [.agg [.int .i64 n,.int .i64 d]] (.bool (rOk ⟨n,d⟩)) []:=by
 refine fnT hT hmx Tryz.func81 rfl rfl (ex:= []) ?_;conv=>whnf
 refine brI (fun h1=>?_) (fun h1=>?_)
 .conv=>whnf
  refine brI (fun h2=>?_) (fun h2=>?_)
  .conv=>whnf
   refine brI (fun h3=>?_) (fun h3=>?_)
   .conv=>whnf
    refine brI (fun h4=>?_) (fun h4=>?_)
    .conv=>whnf
     simp only[Z2]at h1 h2 h3 h4;refine gYn (f105 n O) ?_;refine gYn (f105 d O) ?_;refine gYn (f104 n.natAbs d.natAbs O O) ?_;refine gYd ?_;refine⟨ab0 ?_,lh0⟩;have:rIn ⟨n,d⟩:=⟨h1,h2,h3,h4⟩;simp only[rOk,this,decide_true,Bool.true_and];rw[Bool.eq_iff_iff];simp;omega
    .conv=>whnf
     refine gYd ?_;exact⟨ab0 (zna fun h=>by simp[rIn]at h h4;omega),lh0⟩
   .conv=>whnf
    refine gYd ?_;exact⟨ab0 (zna fun h=>by simp[rIn]at h h3;omega),lh0⟩
  .conv=>whnf
   refine gYd ?_;exact⟨ab0 (zna fun h=>by simp[rIn]at h h2;omega),lh0⟩
 .conv=>whnf
  refine gYd ?_;exact⟨ab0 (zna fun h=>by simp[rIn]at h h1;omega),lh0⟩
theorem zxi{r:Rt}(h:rOk r=true):rIn r:=by simp[rOk]at h;exact h.1
theorem c177(s:ByteArray)(c:Int)(w:World):
 Calls Tryz.prog 248 #[.string s,.int .u8 c] w fun e w'=>e=.returned (.int .i64 (firstIdx s c.toNat.toUInt8))/\w'=w:=by
 go_enter Tryz.func248,Tryz.ntmps248
 go_wp2
 rw[run_callFunc_extern Tryz.func272 Z Z Z (e:=Extern.BytealgIndexByte.indexByte) Z,run_indexByte_string];simp only[Result.andThen];rw[Oper.upon_value]
 go_wp2
 go_ret
 exact⟨rfl,rfl⟩
theorem zcm.pure{P:Program}{f:Nat}{H:Hp}{A:List AV}{r:AV}(hE:Ent P f)
 (h:∀(ρ:Env)(vs:List Value)(w:World),Rs ρ A vs->Calls P f vs.toArray w fun e w'=>(∃v,e=.returned v/\R ρ r v)/\w'=w):zcm P f H A r H:=by
 refine⟨hE,fun w M pt ow S vs hcore hcont hargs=>?_⟩;refine(h _ vs w hargs).mono ?_;rintro e w' ⟨⟨v,rfl,hr⟩,rfl⟩;exact⟨v,M,pt,ow,S,rfl,hcore,hcont,hr,⟨rfl,rfl,rfl,Nat.le_refl _,fun _ _ _ _=>rfl,fun _ h=>h,fun _ h=>.inl h,fun _ h=>.inl h,fun _ _ h=>.inl h,fun _ _ h=>.inl h⟩⟩
theorem f177(s:zp)(c:Int):Fn 248 [] [.str s,.int .u8 c] (.int .i64 (firstIdx ⟨s.toArray⟩ c.toNat.toUInt8)) []:=by
 refine zcm.pure ⟨_,Tryz.func248,rfl,rfl⟩ fun ρ vs w hv=>?_
 match vs,hv with
 | [a,b],⟨ha,hb,_⟩=>
   obtain rfl:a=.string ⟨s.toArray⟩:=ha;obtain rfl:b=.int .u8 c:=hb;refine(c177 ⟨s.toArray⟩ c w).mono ?_;rintro e w' ⟨rfl,rfl⟩;exact⟨⟨_,rfl,rfl⟩,rfl⟩
theorem f164(s:zp)(c:Int):Fn 206 [] [.str s,.int .u8 c] (.int .i64 (firstIdx ⟨s.toArray⟩ c.toNat.toUInt8)) []:=by
 refine fnT hT hmx Tryz.func206 rfl rfl (ex:= []) ?_;conv=>whnf
 refine gYn (f177 s c) ?_;exact⟨lr rfl,lh0⟩
def syms:zp:= [40,41,91,93,123,125,44,59,58,39,61,43,45,42,47,94]
def cls(c:Int):Int:=
 if c=32\/c=9\/c=13\/c=10 then 1 else if(97<=c/\c<=122)\/(65<=c/\c<=90)then 2 else if 48<=c/\c<=57 then 3
 else if c=95 then 4 else if c=46 then 5 else if 0<=firstIdx ⟨syms.toArray⟩ c.toNat.toUInt8 then 6 else 0
theorem f157(c:Int):Fn 158 [] [.int .u8 c] (.int .i64 (cls c)) []:=by
 refine fnT hT hmx Tryz.func158 rfl rfl (ex:= []) ?_;conv=>whnf
 repeat' first
  |(refine brI (fun h=>?_) (fun h=>?_)<;>(conv=>whnf))
  |refine⟨ai0 ?_,lh0⟩
  |(refine gYn (f164 syms c) ?_)
 all_goals (simp only[Z2,Z3,beq_iff_eq,beq_eq_false_iff_ne,ne_eq]at*;unfold cls;repeat' split)
 all_goals first|rfl|omega
def kws:List zp:= [[115,116,97,116,101],[112,97,114,97,109],[105,110],[109,111,100,101],[119,104,101,110],[114,105,115,101,115],[102,97,108,108,115],[103,111,116,111],[119,105,116,104],[116,105,109,101],[101,120,112],[108,111,103],[115,105,110],[99,111,115],[115,113,114,116]]
def kwB(s:zp):Bool:=kws.any fun k=>s==k
theorem f135(s:zp):Fn 115 [] [.str s] (.bool (kwB s)) []:=by
 refine fnT hT hmx Tryz.func115 rfl rfl (ex:= []) ?_;conv=>whnf
 repeat' first
  |(refine brI (fun h=>?_) (fun h=>?_)<;>(conv=>whnf))
  |refine q1 (ab0 ?_) lh0
 all_goals simp_all[kwB,kws]
def chB(c:UInt8):Bool:=decide (cls c.toNat=2)||decide (cls c.toNat=3)||decide (cls c.toNat=4)
def zo9:zp->Bool
 | []=>false
 |c::s=>decide (cls c.toNat=2)&&s.all chB
theorem f134(s:zp)(hs:s.length<9223372036854775808):Fn 114 [] [.str s] (.bool (zo9 s)) []:=by
 refine fnT hT hmx Tryz.func114 rfl rfl (ex:= []) ?_;conv=>whnf
 match s,hs with
 | [],_=>
   conv=>whnf
   exact⟨ab0 rfl,lh0⟩
 |c::s,hs=>
  conv=>whnf
  refine⟨⟨O,OC⟩,fun c' hc'=>?_⟩;obtain rfl:c=c':=by simpa using hc'
  conv=>whnf
  refine gYn (f157 c.toNat) ?_;refine brI (fun h2=>?_) (fun h2=>?_)
  .conv=>whnf
   refine⟨ab0 ?_,lh0⟩;simp only[bne_iff_ne]at h2;simp[zo9,h2]
  .conv=>whnf
   have h2:cls c.toNat=2:=by simpa using h2
   refine⟨Nat,fun i=>i<=(c::s).length /\((c::s).take i).all chB=true,fun i=> [(15,.int .i64 i)],fun _=> [],fun i=>(c::s).length -i,0,⟨OC,OC⟩,?_,fun i hi=>?_⟩
   ·((conv=>whnf);refine⟨?_,lh0⟩;repeat' first|exact ln0|exact la0|exact lr rfl|refine lc ?_ ?_)
   .refine gYe ?_;obtain⟨hi1,hi2⟩:=hi;refine brI (fun h3=>?_) (fun h3=>?_)
    .conv=>whnf
     have h3:i<(c::s).length :=by simp only[Z2]at h3;omega
     refine⟨⟨O,O⟩,fun c' hc'=>?_⟩;have hc':(c::s)[i]? =some c':=by simpa using hc'
     conv=>whnf
     refine gYn (f157 c'.toNat) ?_;have hno:chB c'=false->false=zo9 (c::s):=fun h=>by
      have hm:c'∈c::s:=q4 hc';simp only[zo9,h2,decide_true,Bool.true_and];rcases q6.1 hm with rfl|hm
      .simp[chB,h2]at h
      .symm;rw[List.all_eq_false];exact⟨c',hm,by rw[h];simp⟩
     have hyes:chB c'=true->((c::s).take (i+1)).all chB=true:=fun h=>by
      rw[List.take_add_one,hc'];simp[hi2,h]
     have hnext:chB c'=true->i+1<=(c::s).length /\((c::s).take (i+1)).all chB=true:=fun h=>⟨O,hyes h⟩
     refine brI (fun h4=>?_) (fun h4=>?_)
     .conv=>whnf
      refine brI (fun h5=>?_) (fun h5=>?_)
      .conv=>whnf
       refine brI (fun h6=>?_) (fun h6=>?_)
       .conv=>whnf
        refine⟨ab0 (hno ?_),lh0⟩;simp only[bne_iff_ne]at h4 h5 h6;simp[chB,h4,h5,h6]
       .conv=>whnf
        refine⟨i+1,hnext (by simp at h6;simp[chB,h6]),(by show(c::s).length -(i+1)<(c::s).length -i;omega),?_⟩
        ((conv=>whnf);refine⟨?_,lh0⟩;repeat' first|exact ln0|exact la0|exact lr rfl|refine lc ?_ ?_)
        exact ai0 (by rw[wI O];omega)
      .conv=>whnf
       refine⟨i+1,hnext (by simp at h5;simp[chB,h5]),(by show(c::s).length -(i+1)<(c::s).length -i;omega),?_⟩
       ((conv=>whnf);refine⟨?_,lh0⟩;repeat' first|exact ln0|exact la0|exact lr rfl|refine lc ?_ ?_)
       exact ai0 (by rw[wI O];omega)
     .conv=>whnf
      refine⟨i+1,hnext (by simp at h4;simp[chB,h4]),(by show(c::s).length -(i+1)<(c::s).length -i;omega),?_⟩
      ((conv=>whnf);refine⟨?_,lh0⟩;repeat' first|exact ln0|exact la0|exact lr rfl|refine lc ?_ ?_)
      exact ai0 (by rw[wI O];omega)
    .conv=>whnf
     have h3:¬i<(c::s).length :=by simp only[Z3]at h3;omega
     refine⟨ab0 ?_,lh0⟩;rw[List.take_of_length_le O]at hi2;simp only[List.all_cons,Bool.and_eq_true]at hi2;simp[zo9,h2,hi2.2]
def zfn(s:zp):Bool:=zo9 s&&decide (s.length<=20)&& !kwB s
theorem f89(s:zp)(hs:s.length<9223372036854775808):Fn 70 [] [.str s] (.bool (zfn s)) []:=by
 refine fnT hT hmx Tryz.func70 rfl rfl (ex:= []) ?_;conv=>whnf
 refine gYn (f134 s hs) ?_;refine brI (fun h1=>?_) (fun h1=>?_)
 .conv=>whnf
  refine brI (fun h2=>?_) (fun h2=>?_)
  .conv=>whnf
   refine gYn (f135 s) ?_;have h2:s.length<=20:=by simp only[Z2]at h2;omega
   exact⟨ab0 (by simp[zfn,h1,h2]),lh0⟩
  .conv=>whnf
   have h2:¬s.length<=20:=by simp only[Z3]at h2;omega
   exact⟨ab0 (by simp[zfn,h2]),lh0⟩
 .conv=>whnf
  exact⟨ab0 (by simp[zfn,h1]),lh0⟩
set_option maxHeartbeats 4000000
def opn(k:Int):Int:=
 if k=3\/k=4\/k=5\/k=6 then 2 else if k=7\/k=8\/k=9\/k=10\/k=11\/k=12\/k=13 then 1 else-1
theorem f147(k:Int):Fn 124 [] [.int .i64 k] (.int .i64 (opn k)) []:=by
 refine fnT hT hmx Tryz.func124 rfl rfl (ex:= []) ?_;conv=>whnf
 repeat' first
  |(refine brI (fun h=>?_) (fun h=>?_)<;>(conv=>whnf))
  |refine q1 (ai0 ?_) lh0
  |fail
 all_goals (simp only[beq_iff_eq,beq_eq_false_iff_ne,ne_eq]at*;unfold opn;repeat' split)
 all_goals first|rfl|omega
def numB(e:Ex):Bool:=rOk e.q&&(e.s== [])&&decide (e.p=0)&&decide (e.l.length=0)
def varB(e:Ex):Bool:=decide (e.q=⟨0,0⟩)&&zfn e.s&&decide (e.p=0)&&decide (e.l.length=0)
def powB(e:Ex):Bool:=decide (e.q=⟨0,0⟩)&&(e.s== [])&&decide (0<=e.p)&&decide (e.p<=16)&&decide (e.l.length=1)
def opB(e:Ex):Bool:=decide (e.q=⟨0,0⟩)&&(e.s== [])&&decide (e.p=0)&&decide ((e.l.length:Int)=opn e.k)
def zin(e:Ex):Bool:=if e.k=1 then numB e else if e.k=2 then varB e else if e.k=8 then powB e else opB e
theorem f118(e:Ex)(hs:e.s.length<9223372036854775808):Fn 88 [] [.agg (exC e)] (.bool (zin e)) []:=by
 refine fnT hT hmx Tryz.func88 rfl rfl (ex:= []) ?_;conv=>whnf
 repeat' first
  |(refine brI (fun h=>?_) (fun h=>?_)<;>(conv=>whnf))
  |refine q1 (ab0 ?_) lh0
  |(refine gYn (f54 e.q.n e.q.d) ?_)
  |(refine gYn (f89 e.s hs) ?_)
  |(refine gYn (f147 e.k) ?_)
  |(refine q1 Z (q1 Z ?_);conv=>whnf)
  |fail
 all_goals (obtain⟨k,⟨n,d⟩,s,p,l⟩:=e;simp only[Ex.k,Ex.q,Ex.s,Ex.p,Ex.l]at*;simp_all[zin,numB,varB,powB,opB,Ex.k,Ex.q,Ex.s,Ex.p,Ex.l])
 all_goals first
  |(cases l<;>simp<;>omega)
  |(intro h1;have h2:=Z0 h1;omega)
  |(rw[Bool.eq_iff_iff];simp only[beq_iff_eq];constructor
    .intro h1;exact Z6 O
    .intro h1;have:=Z0 h1;omega)
mutual
def Sm:Ex->Prop
 |.mk _ _ s _ l=>s.length<9223372036854775808/\l.length<9223372036854775808/\SmL l
def SmL:List Ex->Prop
 | []=>True
 |x::l=>Sm x/\SmL l
end
theorem qbb{l:List Ex}(h:SmL l){x:Ex}{i:Nat}(hx:l[i]? =some x):Sm x:=by
 induction l generalizing i with
 |nil=>simp at hx
 |cons y l ih=>cases i with
  |zero=>simp at hx;rw[<-hx];exact h.1
  |succ i=>exact ih h.2 (by simpa using hx)
mutual
def zcl:Ex->Nat->Nat->Bool×Nat
 |.mk k q s p l,d,n=>if d<=20/\n+1<=200/\zin (.mk k q s p l)=true then zeg l (d+1) (n+1)else(false,n+1)
def zeg:List Ex->Nat->Nat->Bool×Nat
 | [],_,n=>(true,n)
 |x::l,d,n=>match zcl x d n with
  |(true,m)=>zeg l d m
  |(false,m)=>(false,m)
end
def ixL:List Ex->Nat->Nat->Nat->Int
 | [],_,_,_=> -1
 |x::l,d,n,i=>match zcl x d n with
  |(true,m)=>ixL l d m (i+1)
  |(false,_)=>i
theorem zs3:∀(l:List Ex)(d n i:Nat),0<=ixL l d n i<->(zeg l d n).1=false
 | [],d,n,i=>by simp[ixL,zeg]
 |x::l,d,n,i=>by
  simp only[ixL,zeg]
  cases h:zcl x d n with
  |mk b m=>cases b with
   |true=>exact zs3 l d m (i+1)
   |false=>simp
abbrev cb1(n:Int):Blk:=.cells [.int .i64 n]
abbrev Hc(d n:Nat):Hp:= [(1000004,cb1 d),(1000005,.cells [.ptr 1000002 0]),(1000002,cb1 n)]
abbrev zuj(e:Ex):Prop:=∀d n:Nat,d<=1000->n<=1000->Fn 58 [(1000002,cb1 n)] [.agg (exC e),.int .i64 d,.ptr 1000002 0] (.bool (zcl e d n).1) [(1000002,cb1 (zcl e d n).2)]
theorem f119(e:Ex)(h:zuj e)(d n:Nat)(hd:d<1000)(hn:n<=1000):
 Fn 89 (Hc d n) [.agg (exC e),.ptr 1000004 0,.ptr 1000005 0] (.bool (!(zcl e (d+1) n).1)) (Hc d (zcl e (d+1) n).2):=by
 refine fnT hT hmx Tryz.func89 rfl rfl (ex:= []) ?_;conv=>whnf
 rw[wI (x:=(d:Int)+1) O];refine⟨[cb1 (zcl e (d+1) n).2],.bool (zcl e (d+1) n).1,h (d+1) n O hn,?_⟩;conv=>whnf
 exact⟨lr rfl,lh1 (bc0 (lc (lr rfl) ln0)) (lh1 (bc0 (lc (lr rfl) ln0)) (lh1 (bc0 (lc (lr rfl) ln0)) lh0))⟩
mutual
theorem ztn:∀(e:Ex)(d n:Nat),(zcl e d n).1=true->(zcl e d n).2<=200
 |.mk k q s p l,d,n,h=>by
   simp only[zcl]at h⊢;split at h
   .rename_i hc;rw[Z4 hc];exact ztm l _ _ hc.2.1 h
   .simp at h
theorem ztm:∀(l:List Ex)(d n:Nat),n<=200->(zeg l d n).1=true->(zeg l d n).2<=200
 | [],d,n,hn,_=>hn
 |x::l,d,n,hn,h=>by
  simp only[zeg]at h⊢;have:=ztn x d n
  cases hx:zcl x d n with
  |mk b m=>cases b with
   |true=>rw[hx]at h this;exact ztm l d m (this rfl) h
   |false=>rw[hx]at h;simp at h
end
def AtL(l:List Ex)(d n i m:Nat):Prop:=i<=l.length/\m<=200/\zeg (l.drop i) d m=zeg l d n/\ixL (l.drop i) d m i=ixL l d n 0
theorem zw4{l:List Ex}{d n i m m':Nat}{x:Ex}(h:AtL l d n i m)(hx:l[i]? =some x)(hc:zcl x d m=(true,m')):AtL l d n (i+1) m':=by
 obtain⟨h1,h2,h3,h4⟩:=h;have hd:l.drop i=x::l.drop (i+1):=by
  obtain⟨hi,hx⟩:=q0.1 hx;rw[<-hx];exact q2 hi
 have hi:i<l.length:=by
  obtain⟨hi,hx⟩:=q0.1 hx;exact hi
 rw[hd]at h3 h4;simp only[zeg,ixL,hc]at h3 h4;have:=ztn x d m (by rw[hc]);rw[hc]at this;exact⟨O,this,h3,h4⟩
theorem f114c(l:List Ex)(hl:∀x∈l,zuj x)(hlen:l.length<9223372036854775808)(d n:Nat)(hd:d<1000)(hn:n<=200):
 Fn 87 (Hc d n) [.sl .ex l,.fn 89 [.ptr 1000004 0,.ptr 1000005 0]] (.int .i64 (ixL l (d+1) n 0)) (Hc d (zeg l (d+1) n).2):=by
 refine fnT hT hmx Tryz.func87 rfl rfl (ex:= []) ?_;conv=>whnf
 refine⟨Nat×Nat,fun x=>AtL l (d+1) n x.1 x.2,fun x=> [(8,.int .i64 x.1)],fun x=> [(1000002,cb1 x.2)],fun x=>l.length-x.1,(0,n),⟨OC,hn,rfl,rfl⟩,?_,fun x hx=>?_⟩
 ·((conv=>whnf);refine q1 ?_ ?_;repeat' first|exact ln0|exact lh0|exact la0|exact lr rfl|exact li0 rfl|refine lg0 ?_|refine lt0 ?_|exact bf0|exact bd0|refine lc ?_ ?_|refine lh1 ?_ ?_|refine bc0 ?_|fail)
 .refine gYe ?_;obtain⟨i,m⟩:=x;have hx:AtL l (d+1) n i m:=hx;refine brI (fun h1=>?_) (fun h1=>?_)
  .conv=>whnf
   have hi:i<l.length:=by simp only[Z2]at h1;omega
   refine⟨⟨O,OD⟩,fun e he=>?_⟩;have he:l[i]? =some e:=by simpa using he
   conv=>whnf
   refine⟨[cb1 d,.cells [.ptr 1000002 0],cb1 (zcl e (d+1) m).2],.bool (!(zcl e (d+1) m).1),f119 e (hl e (q4 he)) d m hd (by have:=hx.2.1;omega),?_⟩;conv=>whnf
   refine brI (fun h2=>?_) (fun h2=>?_)
   .conv=>whnf
    have hd:l.drop i=e::l.drop (i+1):=by
     obtain⟨hi,he⟩:=q0.1 he;rw[<-he];exact q2 hi
    have h2:(zcl e (d+1) m).1=false:=by simpa using h2
    obtain⟨_,_,h3,h4⟩:=hx;rw[hd]at h3 h4;simp only[zeg,ixL]at h3 h4;rcases hc:zcl e (d+1) m with ⟨b,m'⟩
    rw[hc]at h3 h4 h2;subst h2;simp only at h3 h4;rw[<-h3,<-h4]
    (refine q1 ?_ ?_;repeat' first|exact ln0|exact lh0|exact la0|exact lr rfl|exact li0 rfl|refine lg0 ?_|refine lt0 ?_|exact bf0|exact bd0|refine lc ?_ ?_|refine lh1 ?_ ?_|refine bc0 ?_|fail)
   .conv=>whnf
    have h2:(zcl e (d+1) m).1=true:=by simpa using h2
    refine⟨(i+1,(zcl e (d+1) m).2),zw4 hx he (by rw[<-h2]),by show l.length-(i+1)<l.length-i;omega,?_⟩
    ((conv=>whnf);refine q1 ?_ ?_;repeat' first|exact ln0|exact lh0|exact la0|exact lr rfl|exact li0 rfl|refine lg0 ?_|refine lt0 ?_|exact bf0|exact bd0|refine lc ?_ ?_|refine lh1 ?_ ?_|refine bc0 ?_|fail)
    exact ai0 (by rw[wI OD];simp only;omega)
  .conv=>whnf
   have hi:¬i<l.length:=by simp only[Z3]at h1;omega
   obtain⟨_,_,h3,h4⟩:=hx;rw[q3 O]at h3 h4;simp only[zeg,ixL]at h3 h4;rw[<-h3,<-h4]
   (refine q1 ?_ ?_;repeat' first|exact ln0|exact lh0|exact la0|exact lr rfl|exact li0 rfl|refine lg0 ?_|refine lt0 ?_|exact bf0|exact bd0|refine lc ?_ ?_|refine lh1 ?_ ?_|refine bc0 ?_|fail)
theorem f60c(l:List Ex)(hl:∀x∈l,zuj x)(hlen:l.length<9223372036854775808)(d n:Nat)(hd:d<1000)(hn:n<=200):
 Fn 56 (Hc d n) [.sl .ex l,.fn 89 [.ptr 1000004 0,.ptr 1000005 0]] (.bool (!(zeg l (d+1) n).1)) (Hc d (zeg l (d+1) n).2):=by
 refine fnT hT hmx Tryz.func56 rfl rfl (ex:= []) ?_;conv=>whnf
 refine⟨[cb1 d,.cells [.ptr 1000002 0],cb1 (zeg l (d+1) n).2],_,f114c l hl hlen d n hd hn,?_⟩;conv=>whnf
 (refine q1 ?_ ?_;repeat' first|exact ln0|exact lh0|exact la0|exact lr rfl|exact li0 rfl|refine lg0 ?_|refine lt0 ?_|exact bf0|exact bd0|refine lc ?_ ?_|refine lh1 ?_ ?_|refine bc0 ?_|fail)
 exact ab0 (by have:=zs3 l (d+1) n 0;cases hc:(zeg l (d+1) n).1<;>simp_all)
mutual
theorem zwh{P:Ex->Prop}(h:∀k q s p l,(∀x∈l,P x)->P (.mk k q s p l)):∀e,P e
 |.mk k q s p l=>h k q s p l (zx1 h l)
theorem zx1{P:Ex->Prop}(h:∀k q s p l,(∀x∈l,P x)->P (.mk k q s p l)):∀(l:List Ex),∀x∈l,P x
 | []=>fun x hx=>by simp at hx
 |y::l=>fun x hx=>by
  rcases q6.1 hx with e|hx
  .rw[e];exact zwh h y
  .exact zx1 h l x hx
end
theorem zug{l:List Ex}(h:SmL l):∀x∈l,Sm x:=fun x hx=>by
 obtain⟨i,hi⟩:=List.mem_iff_getElem?.1 hx;exact qbb h hi
theorem leH1{h h':Hp}{n m:Int}(e:n=m):leH h h' [(1000002,cb1 n)] [(1000002,cb1 m)]:=by
 subst e;exact lh1 (bc0 (lc (lr rfl) ln0)) lh0
theorem f65:∀(e:Ex),Sm e->zuj e:=by
 refine zwh fun k q s p l ih hs=>?_
 simp only[Sm]at hs;have hl:∀x∈l,zuj x:=fun x hx=>ih x hx (zug hs.2.2 x hx)
 intro d n hd hn;have hnode:Fn 88 [] [.agg (exC (.mk k q s p l))] (.bool (zin (.mk k q s p l))) []:=f118 _ hs.1;have hcon:=f60c l hl hs.2.1;have hno:¬(d<=20/\n+1<=200/\zin (.mk k q s p l)=true)->zcl (.mk k q s p l) d n=(false,n+1):=fun h=>by simp only[zcl];rw[Z5 h]
 refine fnT hT hmx Tryz.func58 rfl rfl (ex:= []) ?_;conv=>whnf
 have hw:IntKind.i64.wrap ((n:Int)+1)=((n+1:Nat):Int):=by rw[wI O];rfl
 refine brI (fun h1=>?_) (fun h1=>?_)
 .conv=>whnf
  simp only[Z2]at h1;rw[hno O];exact⟨lr rfl,leH1 hw⟩
 .conv=>whnf
  simp only[Z3]at h1;refine brI (fun h2=>?_) (fun h2=>?_)
  .conv=>whnf
   simp only[Z2]at h2;rw[hw]at h2;rw[hno O];exact⟨lr rfl,leH1 hw⟩
  .conv=>whnf
   simp only[Z3]at h2;rw[hw]at h2;refine gYn hnode ?_;refine brI (fun h3=>?_) (fun h3=>?_)
   .conv=>whnf
    have h3:zin (.mk k q s p l)=false:=by simpa using h3
    rw[hno (by rw[h3];simp)];exact⟨lr rfl,leH1 hw⟩
   .conv=>whnf
    have h3:zin (.mk k q s p l)=true:=by simpa using h3
    have hyes:zcl (.mk k q s p l) d n=zeg l (d+1) (n+1):=by simp only[zcl];rw[Z4 ⟨O,O,h3⟩]
    rw[hyes,hw];refine⟨[cb1 d,.cells [.ptr 1000002 0],cb1 (zeg l (d+1) (n+1)).2],.bool (!(zeg l (d+1) (n+1)).1),(hcon d (n+1) O O).sw [(4,1000004),(5,1000005)] rfl,?_⟩;conv=>whnf
    exact⟨ab0 OC,leH1 rfl⟩
def okT(e:Ex):Bool:=(zcl e 1 0).1
theorem f17(e:Ex)(hs:Sm e):Fn 23 [] [.agg (exC e)] (.bool (okT e)) []:=by
 refine fnT hT hmx Tryz.func23 rfl rfl (ex:= []) ?_;conv=>whnf
 refine⟨[cb1 (zcl e 1 0).2],.bool (okT e),(f65 e hs 1 0 O O).sw [(3,1000002)] rfl,?_⟩;conv=>whnf
 exact⟨lr rfl,lh0⟩
set_option maxHeartbeats 8000000
theorem va{α:Type}{l:List α}{i:Nat}{x:α}(h:l[i]? =some x):l.drop i=x::l.drop (i+1):=by
 obtain⟨hi,hx⟩:=q0.1 h;rw[<-hx];exact q2 hi
def ixP{α:Type}(p:α->Bool):List α->Nat->Int
 | [],_=> -1
 |x::l,i=>if p x then i else ixP p l (i+1)
theorem za6{α:Type}(p:α->Bool):∀(l:List α)(i:Nat),0<=ixP p l i<->l.any p=true
 | [],i=>by simp[ixP]
 |x::l,i=>by
  have ih:=za6 p l (i+1);by_cases h:p x=true
  .simp[ixP,h]
  .simp only[ixP,Z5 h,ih,List.any_cons];simp[h]
def eqS(s x:zp):Bool:=s==x
theorem f106(l:List zp)(s:zp)(hlen:l.length<9223372036854775808):Fn 118 [] [.sl .str l,.str s] (.int .i64 (ixP (eqS s) l 0)) []:=by
 refine fnT hT hmx Tryz.func118 rfl rfl (ex:= []) ?_;conv=>whnf
 refine⟨Nat,fun i=>i<=l.length/\ixP (eqS s) (l.drop i) i=ixP (eqS s) l 0,fun i=> [(8,.int .i64 i)],fun _=> [],fun i=>l.length-i,0,⟨OC,rfl⟩,?_,fun i hi=>?_⟩
 .exact KZ0
 refine gYe ?_;obtain⟨hi1,hi2⟩:=hi;refine brI (fun h1=>?_) (fun h1=>?_)
 .conv=>whnf
  have hi:i<l.length:=by simp only[Z2]at h1;omega
  refine⟨⟨O,O⟩,fun x hx=>?_⟩;have hx:l[i]? =some x:=by simpa using hx
  rw[va hx]at hi2;simp only[ixP]at hi2;conv=>whnf
  refine brI (fun h2=>?_) (fun h2=>?_)
  .conv=>whnf
   have h2:eqS s x=true:=h2;rw[Z4 h2]at hi2;exact⟨ai0 hi2,lh0⟩
  .conv=>whnf
   have h2:eqS s x=false:=h2;rw[Z5 (by rw[h2];simp)]at hi2;refine⟨i+1,⟨O,hi2⟩,by show l.length-(i+1)<l.length-i;omega,?_⟩;exact KZ0
 .conv=>whnf
  have hi:¬i<l.length:=by simp only[Z3]at h1;omega
  rw[q3 O]at hi2;exact⟨ai0 hi2,lh0⟩
theorem f55(l:List zp)(s:zp)(hlen:l.length<9223372036854775808):Fn 74 [] [.sl .str l,.str s] (.bool (l.any (eqS s))) []:=by
 refine fnT hT hmx Tryz.func74 rfl rfl (ex:= []) ?_;conv=>whnf
 refine gYn (f106 l s hlen) ?_;exact⟨ab0 (by rw[Bool.eq_iff_iff,Z2];exact za6 (eqS s) l 0),lh0⟩
def zzc(r:Rt):Ex:=.mk 1 r [] 0 []
def opE(k n:Int)(l:List Ex):Ex:=.mk k ⟨0,0⟩ [] n l
theorem ix0{P:Ex->Prop}{a:Ex}{l:List Ex}(h:P a):((0:Int)<=0/\(0:Int)<((a::l).length :Int))/\∀x,(a::l)[(0:Int).toNat]? =some x->P x:=
 ⟨⟨O,by simp only[q5];omega⟩,fun x hx=>(show a=x by simpa using hx)▸h⟩
theorem ix1{P:Ex->Prop}{a b:Ex}{l:List Ex}(h:P b):((0:Int)<=1/\(1:Int)<((a::b::l).length :Int))/\∀x,(a::b::l)[(1:Int).toNat]? =some x->P x:=
 ⟨⟨O,by simp only[q5];omega⟩,fun x hx=>(show b=x by simpa using hx)▸h⟩
theorem cbI{Pc K:List Blk->AV->Prop}(bs:List Blk)(b:Bool)(hc:Pc bs (.bool b))(h1:b=true->K bs (.bool true))(h2:b=false->K bs (.bool false)):∃bs' r,Pc bs' r/\K bs' r:=by
 cases b
 .exact⟨bs,_,hc,h2 rfl⟩
 .exact⟨bs,_,hc,h1 rfl⟩
end Go.Proofs.YthbgbmdmimejiaaGreatDoor

namespace Go.Sx
open Go
theorem zcm.arg{P:Program}{f:Nat}{H:Hp}{A A':List AV}{r:AV}{H':Hp}(h:zcm P f H A r H')(ha:∀(ρ:Env)(vs:List Value),Rs ρ A' vs->Rs ρ A vs):zcm P f H A' r H':=
 ⟨h.1,fun w M pt ow S vs hc hk hv=>h.2 w M pt ow S vs hc hk (ha _ _ hv)⟩
end Go.Sx
namespace Go.Proofs.YthbgbmdmimejiaaGreatDoor
open Go Go.Sx
theorem qbc{ρ:Env}{k:Elt}{v:Value}(h:R ρ .nilsl v):R ρ (.sl k []) v:=by
 obtain rfl:v=.slice none 0 0:=h;exact .sl k [] none 0 0 0 0 rfl (Nat.le_refl _) OA (fun h=>absurd rfl h) (fun i x h=>by simp at h)
abbrev nilV(k:Int)(q:Rt)(s:zp)(p:Int):AV:=.agg [.int .i64 k,.int .i64 q.n,.int .i64 q.d,.str s,.int .i64 p,.nilsl]
theorem qfe{ρ:Env}{k:Int}{q:Rt}{s:zp}{p:Int}{v:Value}(h:R ρ (nilV k q s p) v):R ρ (.agg (exC (.mk k q s p []))) v:=by
 obtain⟨vs,hv,h⟩:=h;refine⟨vs,hv,?_⟩
 match vs.toList,h with
 | [a,b,c,d,e,f],⟨h1,h2,h3,h4,h5,h6,_⟩=>exact⟨h1,h2,h3,h4,h5,qbc h6,trivial⟩
theorem nil2{P:Program}{f:Nat}{H:Hp}{a:AV}{k:Int}{q:Rt}{s:zp}{p:Int}{A:List AV}{r:AV}{H':Hp}(h:zcm P f H (a:: .agg (exC (.mk k q s p []))::A) r H'):zcm P f H (a::nilV k q s p::A) r H':=
 h.arg fun ρ vs hv=>match vs,hv with
  | _::_::_,⟨h1,h2,h3⟩=>⟨h1,qfe h2,h3⟩
