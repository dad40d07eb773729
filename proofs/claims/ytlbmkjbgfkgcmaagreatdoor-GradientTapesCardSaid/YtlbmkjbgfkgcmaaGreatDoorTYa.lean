/- Seat of EvaluateExact: the table of math/bits as a ghost block; the lowest bit of a limb. -/
import Derived.Test.YtlbmkjbgfkgcmaaGreatDoorTUa
import Derived.Shelf.Spec.TrailingZeros
import Derived.Lib.BitFns
import Derived.Laws.Bits64b
set_option linter.all false
open And renaming intro->qN
open BitVec renaming ofInt->qB,ofInt_natCast->qP,toNat_ofNat->qS
open Int renaming fdiv_eq_ediv_of_nonneg->q3,eq_ofNat_of_zero_le->qA,pow_nonneg->qO,ofNat_tmod->qQ,ofNat_tdiv->qW,mul_nonneg->qX,pow_pos->w0
open List renaming replicate->q0,mem_of_getElem?->q1,drop_of_length_le->q2,length_take->qC,getLast?_eq_getElem?->qD,length_append->qE,length_replicate->qF,length_cons->qG,length_nil->qI,getElem?_eq_some_iff->qK,getElem?_eq_getElem->qM,length_drop->qU,length_set->qV,set->qY
open Nat renaming pow_le_pow_right->qH,mul_lt_mul_of_lt_of_le->qJ,le_refl->qL,lt_of_lt_of_le->qR,mod_eq_of_lt->qT,sub_self->qZ
open Option renaming getD_some->q4
open Go.IntKind renaming i64->w1,u32->w2,u64->w3,signed->w4,wrap->w8,bits->w9,u8->wA
open Go.Lib renaming bitLen->w5,deBruijn32tab->w6,bitLen_le8->w7,bitLen_shift8->we,lowest_bit->wi,bitLen_shift16->wn,ctz->ws
namespace Go.Proofs.YtlbmkjbgfkgcmaaGreatDoor
open Go Go.Sx
set_option maxRecDepth 100000
set_option maxHeartbeats 8000000
def JT:GJ:=fun _ V _=>∀j,j<w6.length->zb5 V 0 j (.int .u8 (w6.getD j 0))
theorem qcg:zu3 JT:=fun _ _ _ _ _ h _ hj j hl=>(hj j hl).cmono h
abbrev G0:Hp:= [(qi,.gst JT)]
theorem leG{h h':Hp}:leH h h' G0 G0:=lh1 (bg0 rfl) lh0
theorem gYc{Q K:List Blk->AV->Prop}{r:AV}(h:Q [.gst JT] r){X:Prop}(k:X)(e:K [.gst JT] r=X:=by conv=>lhs;whnf):∃b r,Q b r/\K b r:=⟨_,_,h,e.mpr k⟩
theorem gZc{Q K:List Blk->AV->Prop}{r:AV}(h:Q [.gst JT] r)(k:K [.gst JT] r):∃b r,Q b r/\K b r:=⟨_,_,h,k⟩
def T4:Tab:= {T with nb:=T.nb,gl:= [67,57,59,58,101,102,103,96,99,170,174,219,221,271,300,173,223,272]}
theorem hT4:TabOK Tryz.prog T4:=zfd Z Z
theorem fY4{f:Nat}{fn:Func}{c:Code}(a:Tryz.prog.funcs[f]?=some fn)(b:fn.body=some c){H H':Hp}{A:List AV}{r:AV}{X:Prop}(k:X)(d:(fn.name == "runtime.NumGoroutine")=false:=by first|rfl)(e:(fnC T4 [] c fn.ntmps H A H' fun Y=>zau T4 (CN Tryz.prog) c true Y (fun Y=>ze3 T4 fn.results.toList [] r H' Y) (fun _ _=>False) (fun Y=>ze3 T4 fn.results.toList [] r H' Y))=X:=by conv=>lhs;whnf):zh8 Tryz.prog f H A r H':=fnT hT4 hmx a b d (e.mpr k)
theorem fZ4{f:Nat}{fn:Func}{c:Code}(a:Tryz.prog.funcs[f]?=some fn)(b:fn.body=some c)(d:(fn.name == "runtime.NumGoroutine")=false){H H':Hp}{A:List AV}{r:AV}(h:fnC T4 [] c fn.ntmps H A H' fun Y=>zau T4 (CN Tryz.prog) c true Y (fun Y=>ze3 T4 fn.results.toList [] r H' Y) (fun _ _=>False) (fun Y=>ze3 T4 fn.results.toList [] r H' Y)):zh8 Tryz.prog f H A r H':=fnT hT4 hmx a b d h
theorem c220(x k idx:Nat)(w:World)(hx0:((x:Int)==0)=false)
 (key:bits BinOp.and w2 (x:Int) (-(x:Int) % 4294967296)*125613361 % 4294967296/134217728=(idx:Int))
 (hi:idx<32) (hk:k<32) (hcell:w.cell? ⟨0,idx,none⟩=some (.int .u8 k)):
 Calls Tryz.prog 272 #[.int .u32 x] w fun e w'=>e=.returned (.int .i64 k)/\w'=w:=by
 go_enter Tryz.func272,Tryz.ntmps272
 go_wp2_with (simp only[key])
 go_ret
 exact⟨rfl,rfl⟩
theorem c220x(x:Nat)(hx:x<4294967296)(hx0:x≠0)(w:World)(hT:TabAt 0 w6 w):Calls Tryz.prog 272 #[.int .u32 x] w fun e w'=>e=.returned (.int .i64 (ws 32 x:Nat))/\w'=w:=by
 obtain⟨hlow,hk⟩:=wi 32 x hx0 hx;obtain⟨hi,htab⟩:=Lib.deBruijn32_at _ hk;have hcell:=hT _ hi;rw[htab]at hcell;exact c220 x _ _ w OE (tz32_key x _ hx hx0 hlow) hi hk hcell
theorem qgh{w:World}{M:Nat->Prop}{S:Nat->Prop}(h:JT S (zo w M) w):TabAt 0 w6 w:=fun j hj=>by
 obtain⟨cs,Ty,fr,⟨_,h1⟩,h2⟩:=h j hj;simp only[World.cell?,h1];exact h2
theorem y220(x:Nat)(hx:x<4294967296)(hx0:x≠0):Fn 272 G0 [.int .u32 x] (.int .i64 (ws 32 x:Nat)) G0:=by
 refine⟨⟨_,Tryz.func272,rfl,rfl⟩,fun w M pt ow S vs hcore hcont hargs=>?_⟩
 match vs,hargs with
 | [v],⟨hv,_⟩=>
   obtain rfl:v=.int .u32 x:=hv;have hb:uc w (zo w M) pt ow S qi (.gst JT):=hcore.blk qi;refine(c220x x hx hx0 w (qgh hb.2.2)).mono ?_;rintro e w' ⟨rfl,rfl⟩;exact⟨_,M,pt,ow,S,rfl,hcore,hcont,rfl,rfl,rfl,rfl,qL _,fun _ _ _ _=>rfl,fun _ h=>h,fun _ h=>.inl h,fun _ h=>.inl h,fun _ _ h=>.inl h,fun _ _ h=>.inl h⟩
def len8:zb7:= [0,1,2,2,3,3,3,3,4,4,4,4,4,4,4,4,5,5,5,5,5,5,5,5,5,5,5,5,5,5,5,5]++q0 32 6++q0 64 7++q0 128 8
theorem qaw:∀n:Fin 256,(len8[n.val]?).map (·.toNat)=some (w5 n.val):=OB
theorem y113(x:Nat)(hx:x<4294967296):Fn 262 [] [.int .u32 x] (.int .i64 (w5 x:Nat)) []:=by
 have hle:∀(y:Int)(m:Nat),y.toNat=m->m<256->∀c,len8[y.toNat]? =some c->c.toNat=w5 m/\c.toNat<=8:=fun y m hy hm c hc=>by
  have:=qaw ⟨m,hm⟩;simp only at this;rw[hy]at hc;rw[hc]at this;have h1:c.toNat=w5 m:=Option.some.inj this;exact⟨h1,by rw[h1];exact w7 ⟨m,hm⟩⟩
 refine fnT hT hmx Tryz.func262 rfl rfl (ex:= []) ?_;conv=>whnf
 have sh:∀n k:Nat,(n:Int).fdiv (2^k)=((n/2^k:Nat):Int):=fun n k=>by
  rw[q3 _ (by exact qO OA)];rfl
 have e8:∀n:Nat,n<256->wA.wrap (n:Int)=n:=fun n h=>by show wA.wrap (n:Int)=n;simp[w8,w4,w9];omega
 refine brI (fun h1=>?_) (fun h1=>?_)
 .have h1:65536<=x:=by simp only[Z4]at h1;omega
  have e1:=wn x h1 O;conv=>whnf
  refine⟨O,?_⟩;conv=>whnf
  rw[show(x:Int).fdiv (2^min (16:Int).toNat w2.bits)=((x/65536:Nat):Int)from sh x 16];refine brI (fun h2=>?_) (fun h2=>?_)
  .have h2:256<=x/65536:=by simp only[Z4]at h2;omega
   have e2:=we (x/65536) h2 O;conv=>whnf
   refine⟨O,?_⟩;conv=>whnf
   rw[show((x/65536:Nat):Int).fdiv (2^min (8:Int).toNat w2.bits)=((x/65536/256:Nat):Int)from sh _ 8,e8 _ O];refine⟨⟨O,OE⟩,fun c hc=>?_⟩;conv=>whnf
   obtain⟨hc,hc8⟩:=hle _ (x/65536/256) O O c hc;refine⟨ai0 ?_,lh0⟩;show w1.wrap (w1.wrap (16+8)+w1.wrap (c.toNat:Int))=_;rw[wI (x:=(c.toNat:Int)) O,wI (x:=16+8) O,wI O];omega
  .have h2:x/65536<256:=by simp only[Z5]at h2;omega
   conv=>whnf
   rw[e8 _ h2];refine⟨⟨O,OE⟩,fun c hc=>?_⟩;conv=>whnf
   obtain⟨hc,hc8⟩:=hle _ _ O h2 c hc;refine⟨ai0 ?_,lh0⟩;show w1.wrap (16+w1.wrap (c.toNat:Int))=_;rw[wI (x:=(c.toNat:Int)) O,wI O];omega
 .have h1:x<65536:=by simp only[Z5]at h1;omega
  conv=>whnf
  refine brI (fun h2=>?_) (fun h2=>?_)
  .have h2:256<=x:=by simp only[Z4]at h2;omega
   have e2:=we x h2 O;conv=>whnf
   refine⟨O,?_⟩;conv=>whnf
   rw[show(x:Int).fdiv (2^min (8:Int).toNat w2.bits)=((x/256:Nat):Int)from sh _ 8,e8 _ O];refine⟨⟨O,OE⟩,fun c hc=>?_⟩;conv=>whnf
   obtain⟨hc,hc8⟩:=hle _ (x/256) O O c hc;refine⟨ai0 ?_,lh0⟩;show w1.wrap (w1.wrap (0+8)+w1.wrap (c.toNat:Int))=_;rw[wI (x:=(c.toNat:Int)) O,wI (x:=0+8) O,wI O];omega
  .have h2:x<256:=by simp only[Z5]at h2;omega
   conv=>whnf
   rw[e8 _ h2];refine⟨⟨O,OE⟩,fun c hc=>?_⟩;conv=>whnf
   obtain⟨hc,hc8⟩:=hle _ _ O h2 c hc;refine⟨ai0 ?_,lh0⟩;show w1.wrap (0+w1.wrap (c.toNat:Int))=_;rw[wI (x:=(c.toNat:Int)) O,wI O];omega
def trN(l:List Int):Nat->Nat
 |0=>0
 |n+1=>if l[n]?.getD 0=0 then trN l n else n+1
def trL(l:List Int):List Int:=l.take (trN l l.length)
theorem zrf(l:List Int):∀n,trN l n<=n
 |0=>qL _
 |n+1=>by
  have:=zrf l n;simp only[trN];split<;>omega
theorem kr(l:List Int):(trL l).length <=l.length:=by
 have:=zrf l l.length;unfold trL;rw[qC];omega
def LB(l:List Int):Prop:=∀x∈l,0<=x/\x<4294967296
theorem LB.tr{l:List Int}(h:LB l):LB (trL l):=fun x hx=>h x (List.mem_of_mem_take hx)
theorem zn6(l:List Int):∀n,trN l n=0\/∃m x,trN l n=m+1/\l[m]? =some x/\x≠0
 |0=>.inl rfl
 |n+1=>by
  simp only[trN];split
  .exact zn6 l n
  .rename_i h
   cases hx:l[n]? with
   |none=>rw[hx]at h;exact absurd rfl h
   |some x=>rw[hx]at h;exact .inr ⟨n,x,rfl,hx,h⟩
theorem zhv(l:List Int)(hl:l.length<9223372036854775808):Fn 216 [] [.sl .u32 l] (.sl .u32 (trL l)) []:=by
 refine fY4 Tryz.func216 rfl ?_;refine⟨Nat,fun n=>n<=l.length/\trN l n=trN l l.length,fun n=> [(3,.int .i64 n)],fun _=> [],fun n=>n,l.length,⟨qL _,rfl⟩,?_,fun n hn=>?_⟩
 .exact KZ0
 refine gYe ?_;obtain⟨hn1,hn2⟩:=hn;refine brI (fun h1=>?_) (fun h1=>?_)
 .have h1:0<n:=by simp only[Z4]at h1;omega
  obtain⟨m,rfl⟩:∃m,n=m+1:=⟨n-1,O⟩;have hw:w1.wrap (((m+1:Nat):Int)-1)=(m:Int):=by rw[wI O];omega
  conv=>whnf
  rw[hw];refine⟨⟨O,O⟩,fun x hx=>?_⟩;have hx:l[m]? =some x:=by simpa using hx
  simp only[trN,hx,q4]at hn2;conv=>whnf
  refine brI (fun h2=>?_) (fun h2=>?_)
  .have h2:x=0:=by simpa using h2
   rw[Z6 h2]at hn2;conv=>whnf
   refine⟨m,⟨O,hn2⟩,by show m<m+1;omega,?_⟩;exact KZ0
  .have h2:¬x=0:=by simpa using h2
   rw[Z7 h2]at hn2;conv=>whnf
   refine⟨⟨O,O,O⟩,?_⟩;conv=>whnf
   exact⟨vp (by rw[trL,<-hn2];simp),lh0⟩
 .have h1:n=0:=by simp only[Z5]at h1;omega
  subst h1;simp only[trN]at hn2;conv=>whnf
  refine⟨⟨O,O,O⟩,?_⟩;conv=>whnf
  exact⟨vp (by rw[trL,<-hn2];simp),lh0⟩
theorem y170(l:List Int)(hl:l.length<9223372036854775808):Fn 222 [] [.sl .u32 l] (.sl .u32 (trL l)) []:=by
 refine fY4 Tryz.func222 rfl ?_;refine⟨Nat,fun n=>n<=l.length/\trN l n=trN l l.length,fun n=> [(3,.int .i64 n)],fun _=> [],fun n=>n,l.length,⟨qL _,rfl⟩,?_,fun n hn=>?_⟩
 .exact KZ0
 refine gYe ?_;obtain⟨hn1,hn2⟩:=hn;refine brI (fun h1=>?_) (fun h1=>?_)
 .have h1:0<n:=by simp only[Z4]at h1;omega
  obtain⟨m,rfl⟩:∃m,n=m+1:=⟨n-1,O⟩;have hw:w1.wrap (((m+1:Nat):Int)-1)=(m:Int):=by rw[wI O];omega
  conv=>whnf
  rw[hw];refine⟨⟨O,O⟩,fun x hx=>?_⟩;have hx:l[m]? =some x:=by simpa using hx
  simp only[trN,hx,q4]at hn2;conv=>whnf
  refine brI (fun h2=>?_) (fun h2=>?_)
  .have h2:x=0:=by simpa using h2
   rw[Z6 h2]at hn2;conv=>whnf
   refine⟨m,⟨O,hn2⟩,by show m<m+1;omega,?_⟩;exact KZ0
  .have h2:¬x=0:=by simpa using h2
   rw[Z7 h2]at hn2;conv=>whnf
   refine⟨⟨O,O,O⟩,?_⟩;conv=>whnf
   exact⟨vp (by rw[trL,<-hn2];simp),lh0⟩
 .have h1:n=0:=by simp only[Z5]at h1;omega
  subst h1;simp only[trN]at hn2;conv=>whnf
  refine⟨⟨O,O,O⟩,?_⟩;conv=>whnf
  exact⟨vp (by rw[trL,<-hn2];simp),lh0⟩
def lgB(a:List Int):Bool:=decide (256<a.length)
theorem y255(a:List Int):Fn 297 [] [.sl .u32 a] (.bool (lgB a)) []:=by
 refine fY4 Tryz.func297 rfl ?_;refine⟨ab0 ?_,lh0⟩;unfold lgB;rw[Bool.eq_iff_iff];simp only[Z4];omega
theorem y277(l:List (List Int))(hlen:l.length<9223372036854775808):Fn 308 [] [.sl .ls l,.fn 297 []] (.int .i64 (ixP lgB l 0)) []:=by
 refine fY4 Tryz.func308 rfl ?_;refine⟨Nat,fun i=>i<=l.length/\ixP lgB (l.drop i) i=ixP lgB l 0,fun i=> [(8,.int .i64 i)],fun _=> [],fun i=>l.length-i,0,⟨OC,rfl⟩,?_,fun i hi=>?_⟩
 .exact KZ0
 refine gYe ?_;obtain⟨hi1,hi2⟩:=hi;refine brI (fun h1=>?_) (fun h1=>?_)
 .conv=>whnf
  have hi:i<l.length:=by simp only[Z4]at h1;omega
  refine⟨⟨O,O⟩,fun x hx=>?_⟩;have hx:l[i]? =some x:=by simpa using hx
  rw[qh hx]at hi2;simp only[ixP]at hi2;conv=>whnf
  refine cbI [] (lgB x) (y255 x) (fun h2=>?_) (fun h2=>?_)
  .conv=>whnf
   rw[Z6 h2]at hi2;exact⟨ai0 hi2,lh0⟩
  .conv=>whnf
   rw[Z7 (by rw[h2];simp)]at hi2;refine⟨i+1,⟨O,hi2⟩,by show l.length-(i+1)<l.length-i;omega,?_⟩;exact KZ0
 .conv=>whnf
  have hi:¬i<l.length:=by simp only[Z5]at h1;omega
  rw[q2 O]at hi2;exact⟨ai0 hi2,lh0⟩
theorem y254(l:List (List Int))(hlen:l.length<9223372036854775808):Fn 296 [] [.sl .ls l,.fn 297 []] (.bool (l.any lgB)) []:=by
 refine fY4 Tryz.func296 rfl ?_;refine gYn (y277 l hlen) ?_;exact⟨ab0 (by rw[Bool.eq_iff_iff,Z4];exact zgt lgB l 0),lh0⟩
theorem zx2(l:List (List Int))(hlen:l.length<9223372036854775808):Fn 263 [] [.sl .ls l] (.bool (l.any lgB)) []:=by
 refine fY4 Tryz.func263 rfl ?_;refine gYn (y254 l hlen) ?_;exact⟨lr rfl,lh0⟩
theorem y173(l:List Int)(hl:l.length<9223372036854775808):Fn 225 [] [.sl .u32 l] (.sl .u32 l) []:=by
 refine fY4 Tryz.func225 rfl ?_;refine⟨⟨O,O,O⟩,?_⟩;conv=>whnf
 exact⟨vp OC,lh0⟩
theorem y174(l:List Int)(hl:l.length<=1000000):Fn 226 [] [.sl .u32 l] (.sl .u32 l) []:=by
 refine fY4 Tryz.func226 rfl ?_;refine⟨fun h=>?_,fun _=>?_⟩
 .conv=>whnf
  subst h;exact⟨li0 rfl,lh0⟩
 .conv=>whnf
  refine⟨OE,?_⟩;conv=>whnf
  exact⟨vp OC,lh0⟩
def dnL(l:List Int):List Int×Int:=if 256<(trL l).length then([],9)else(trL l,0)
abbrev dnV(p:List Int×Int):AV:=.tup [.sl .u32 p.1,.int .i64 p.2]
theorem qcl(l:List Int)(hl:l.length<=1000000):Fn 264 [] [.sl .u32 l] (dnV (dnL l)) []:=by
 obtain⟨A,hA⟩:∃A,dnL l=A:=⟨_,rfl⟩;rw[hA];unfold dnL at hA;have htl:=kr l;have h215:=zx2 [trL l] OC;have hlg: [trL l].any lgB=decide (256<(trL l).length):=by simp[lgB]
 rw[hlg]at h215;refine fY4 Tryz.func264 rfl ?_;refine gYn (zhv l O) ?_;refine cbI [] _ h215 (fun h1=>?_) (fun h1=>?_)
 .rw[Z6 (Z0 h1)]at hA;subst hA;conv=>whnf
  exact⟨lt0 (lc (li0 rfl) (lc (lr rfl) ln0)),lh0⟩
 .rw[Z7 (Z3 h1)]at hA;subst hA;conv=>whnf
  refine gYn (y173 (trL l) O) ?_;exact⟨lr rfl,lh0⟩
def btL(l:List Int):Int:=match(trL l).getLast? with
 |none=>0
 |some x=>32*((trL l).length -1)+(w5 x.toNat:Nat)
theorem zmi{x:Nat}(h:x<4294967296):w5 x<=32:=by
 by_cases h1:65536<=x
 .have e1:=wn x h1 O;by_cases h2:256<=x/65536
  .have e2:=we (x/65536) h2 O;have:=w7 ⟨x/65536/256,O⟩;simp only at this;omega
  .have:=w7 ⟨x/65536,O⟩;simp only at this;omega
 .by_cases h2:256<=x
  .have e2:=we x h2 O;have:=w7 ⟨x/256,O⟩;simp only at this;omega
  .have:=w7 ⟨x,O⟩;simp only at this;omega
theorem y169(l:List Int)(hb:LB l)(hl:l.length<=1000000):Fn 215 [] [.sl .u32 l] (.int .i64 (btL l)) []:=by
 have htl:=kr l;have h216:=zhv l O;have hb2:=hb.tr;unfold btL;generalize trL l=t at htl h216 hb2;refine fY4 Tryz.func215 rfl ?_;refine gYn h216 ?_;refine brI (fun h1=>?_) (fun h1=>?_)
 .have h1:t= []:=by
   have h1:((t.length:Int)==0)=true:=h1;rw[beq_iff_eq]at h1;exact List.eq_nil_of_length_eq_zero O
  subst h1;conv=>whnf
  exact⟨lr rfl,lh0⟩
 .have h1:0<t.length:=by
   have h1:((t.length:Int)==0)=false:=h1;rw[beq_eq_false_iff_ne]at h1;omega
  have hw:w1.wrap ((t.length:Int)-1)=((t.length-1:Nat):Int):=by rw[wI O];omega
  conv=>whnf
  rw[hw];refine⟨⟨O,O⟩,fun x hx=>?_⟩;have hx:t[t.length-1]? =some x:=by simpa using hx
  have hg:t.getLast?=some x:=by rw[qD];exact hx
  have hxb:=hb2 x (q1 hx);have h113:=y113 x.toNat O;have hbl:=zmi (x:=x.toNat) O;rw[show((x.toNat:Nat):Int)=x by omega]at h113;rw[hg];conv=>whnf
  refine gYn h113 ?_;refine⟨ai0 ?_,lh0⟩;show _=32*((t.length:Int)-1)+((w5 x.toNat:Nat):Int);rw[wI (x:=32*((t.length-1:Nat):Int)) O,wI O];omega
theorem y175(l:List Int)(hb:LB l)(hl:l.length<=1000000):Fn 161 [] [.sl .u32 l] (.int .i64 (btL l)) []:=by
 refine fY4 Tryz.func161 rfl ?_;refine gYn (y169 l hb hl) ?_;exact⟨lr rfl,lh0⟩
def lwL:List Int->Int->Int
 | [],n=>n
 |x::l,n=>if x=0 then lwL l (n+32)else n+(ws 32 x.toNat:Nat)
theorem y171(l:List Int)(hb:LB l)(hl:l.length<=1000000):Fn 223 G0 [.sl .u32 l] (.int .i64 (lwL l 0)) G0:=by
 refine fY4 Tryz.func223 rfl ?_;refine⟨Nat,fun i=>i<=l.length/\lwL (l.drop i) (32*(i:Int))=lwL l 0,fun i=> [(8,.int .i64 i),(3,.int .i64 (32*(i:Int)))],fun _=> [],fun i=>l.length-i,0,⟨OC,rfl⟩,?_,fun i hi=>?_⟩
 .exact KZ0
 refine gYe ?_;obtain⟨hi1,hi2⟩:=hi;refine brI (fun h1=>?_) (fun h1=>?_)
 .conv=>whnf
  have hi:i<l.length:=by simp only[Z4]at h1;omega
  refine⟨⟨O,O⟩,fun(x:Int)hx=>?_⟩;have hx:l[i]? =some x:=by simpa using hx
  have hxb:=hb x (q1 hx);rw[qh hx]at hi2;simp only[lwL]at hi2;conv=>whnf
  refine brI (fun h2=>?_) (fun h2=>?_)
  .have h2:x≠0:=by simpa using h2
   rw[Z7 h2]at hi2;have h220:=y220 x.toNat O O;rw[show((x.toNat:Nat):Int)=x by omega]at h220;have hk:ws 32 x.toNat<32:=(wi 32 x.toNat O O).2;conv=>whnf
   refine gYc h220 ?_;have e:w1.wrap (32*(i:Int)+((ws 32 x.toNat:Nat):Int))=lwL l 0:=by rw[wI O];exact hi2
   exact⟨ai0 e,leG⟩
  .have h2:x=0:=by simpa using h2
   rw[Z6 h2]at hi2;conv=>whnf
   refine⟨i+1,⟨O,by rw[(O:32*((i+1:Nat):Int)=32*(i:Int)+32)];exact hi2⟩,by show l.length-(i+1)<l.length-i;omega,?_⟩
   ((conv=>whnf);refine qN ?_ ?_;repeat' first|refine lc ?_ ?_|refine lh1 ?_ ?_|refine bc0 ?_|exact KXY|refine lg0 ?_|refine lt0 ?_)
   all_goals exact ai0 (by rw[wI O];omega)
 .conv=>whnf
  have hi:¬i<l.length:=by simp only[Z5]at h1;omega
  rw[q2 O]at hi2;exact⟨ai0 hi2,leG⟩
def xv(r:Nat):List Int->Int->List Int
 | [],c=> [c]
 |x::l,c=>(x*2^r+c) % 4294967296::xv r l ((x*2^r+c)/4294967296)
def zgh(a:List Int)(n:Nat):List Int:=q0 (n/32) 0++xv (n % 32) (trL a) 0
theorem zbk(r:Nat):∀(l:List Int)(c:Int),(xv r l c).length =l.length+1
 | [],c=>rfl
 |x::l,c=>by simp[xv,zbk r l]
theorem zsz(x r c:Nat)(hr:r<=32)(hx:x<4294967296)(hc:c<2^r):(qB 64 ((x*2^r:Nat):Int)|||qB 64 (c:Int)).toNat =x*2^r+c:=by
 have h1:2^r<=2^32:=qH OA hr;have h2:x*2^r<2^64:=qR (qJ hx h1 OA) OA;have e1:(qB 64 ((x*2^r:Nat):Int)).toNat =x*2^r:=by rw[qP,qS];exact qT h2
 have e2:(qB 64 (c:Int)).toNat =c:=by rw[qP,qS];exact qT O
 rw[BitVec.toNat_or,e1,e2,Nat.mul_comm x,Nat.two_pow_add_eq_or_of_lt hc]
theorem zms{x c:Int}{n:Nat}(hx:0<=x/\x<4294967296)(hc:0<=c/\c<2^(n % 32)):
 w3.wrap (qB 64 (w3.wrap (x*2^min ((n:Int).tmod 32).toNat 64))|||qB 64 c).toNat =x*2^(n % 32)+c:=by
 obtain⟨y,rfl⟩:=qA hx.1;obtain⟨d,rfl⟩:=qA hc.1;have hd:d<2^(n % 32):=by
  have:=hc.2
  exact_mod_cast this
 have e1:min ((n:Int).tmod 32).toNat 64=n % 32:=by
  have:((n:Int).tmod 32)=((n % 32:Nat):Int):=qQ n 32;rw[this];omega
 rw[e1];have h1:2^(n % 32)<=2^31:=qH OA O;have hy:y<4294967296:=O;have h2:y*2^(n % 32)<2^63:=qR (qJ hy h1 OA) OA;have e2:((y:Nat):Int)*2^(n % 32)=((y*2^(n % 32):Nat):Int):=OC;rw[e2,wU (x:=((y*2^(n % 32):Nat):Int)) O,zsz y (n % 32) d O hy hd,wU O];simp
noncomputable def zup:Code:=Tryz.f265.body.getD .skip
theorem y258(a:List Int)(n:Nat)(hb:LB a)(ha:a.length<=100000)(hn:n<=100000):Fn 265 [] [.sl .u32 a,.int .i64 n] (.sl .u32 (zgh a n)) []:=by
 have htl:=kr a;have h216:=zhv a O;have hb2:=hb.tr;unfold zgh;generalize trL a=t at htl h216 hb2;refine qr (code:=zup) hT4 hmx Tryz.func265 rfl rfl (ex:= []) ?_;conv=>whnf
 refine jm hT4 hmx 4 (fun _:Unit=>⟨[.sl .u32 t,.int .i64 n,.any,.any,.any,.own 20,.int .u64 0]++uo 40,[(20,.buf 101 .u32 (q0 (n/32) 0)),(38,.dead),(100038,.free),(1500038,.free),(46,.free),(100046,.free),(1500046,.free)]⟩) (fun _=>Z) ?_ (fun _=>?_)
 .have hq:w1.wrap ((n:Int).tdiv 32)=((n/32:Nat):Int):=by
   rw[show(n:Int).tdiv 32=((n/32:Nat):Int)from qW n 32,wI O]
  conv=>whnf
  refine gYn h216 ?_;refine⟨O,?_⟩;conv=>whnf
  refine⟨O,?_⟩;conv=>whnf
  rw[hq,wI (x:=((n/32:Nat):Int)+(t.length:Int)) O,wI O];refine⟨⟨O,O,O⟩,?_⟩;conv=>whnf
  refine⟨(),?_⟩;exact KZ0
 .refine zdt 38 20 Z ?_;conv=>whnf
  refine ww hT4 hmx ?_;conv=>whnf
  refine⟨Nat×List Int×Int,fun x=>x.1<=t.length/\x.2.1.length=n/32+x.1/\(0<=x.2.2/\x.2.2<2^(n % 32))/\x.2.1++xv (n % 32) (t.drop x.1) x.2.2=q0 (n/32) 0++xv (n % 32) t 0,fun x=> [(23,.int .i64 x.1),(5,.own 38),(6,.int .u64 x.2.2)],fun x=> [(38,.buf 101 .u32 x.2.1)],fun x=>t.length-x.1,(0,q0 (n/32) 0,0),⟨OC,OC,⟨OC,by exact w0 OA⟩,OC⟩,?_,fun x hx=>?_⟩
  .exact KZ0
  refine gYe ?_;obtain⟨i,out,c⟩:=x;obtain⟨hi1,hi2,hi3,hi4⟩:=hx;simp only at hi1 hi2 hi3 hi4;have hp31:(2:Int)^(n % 32)<=2147483648:=by
   have h1:2^(n % 32)<=2^31:=qH OA O;have h2:(2:Int)^(n % 32)=((2^(n % 32):Nat):Int):=OC;rw[h2];omega
  refine brI (fun h1=>?_) (fun h1=>?_)
  .have hi:i<t.length:=by simp only[Z4]at h1;omega
   conv=>whnf
   refine⟨⟨O,OD⟩,fun(x:Int)hx=>?_⟩;have hx:t[i]? =some x:=by simpa using hx
   have hxb:=hb2 x (q1 hx);have hst:=zms (n:=n) hxb hi3;rw[qh hx]at hi4;simp only[xv]at hi4;obtain⟨s,hs⟩:∃s,x*2^(n % 32)+c=s:=⟨_,rfl⟩;rw[hs]at hst hi4;have hs0:0<=s/\s<4294967296*2^(n % 32):=by
    have h1:0<=x*2^(n % 32):=qX hxb.1 (by exact qO OA);have h2:x*2^(n % 32)<=4294967295*2^(n % 32):=Int.mul_le_mul_of_nonneg_right O (by exact qO OA);omega
   conv=>whnf
   rw[wU (x:=x) O];refine⟨O,?_⟩;conv=>whnf
   refine⟨by have h9:((n:Int).tmod 32)=((n % 32:Nat):Int):=qQ n 32;omega,?_⟩;conv=>whnf
   refine⟨by simp only[qG,qI];omega,?_⟩;conv=>whnf
   refine⟨O,?_⟩;conv=>whnf
   refine⟨(i+1,out++ [s % 4294967296],s/4294967296),⟨OD,by simp only[qE,qG,qI];omega,⟨OD,OD⟩,by rw[List.append_assoc];exact hi4⟩,by show t.length-(i+1)<t.length-i;omega,?_⟩;have e1:w2.wrap s=s % 4294967296:=by simp[w8,w4,w9]
   have e2:s.fdiv 4294967296=s/4294967296:=q3 _ OA
   ((conv=>whnf);refine qN ?_ ?_;repeat' first|refine lc ?_ ?_|refine lh1 ?_ ?_|refine bc0 ?_|exact KXZ|refine lg0 ?_|refine lt0 ?_)
   .exact ai0 ((congrArg (fun z:Int=>z.fdiv 4294967296) hst).trans e2)
   .exact ai0 (by rw[wI OD];simp only;omega)
   .exact bb0 (by
     show out++ [_]=out++ [s % 4294967296];rw[<-e1,<-hst];rfl)
   all_goals trace_state
  .have hi:¬i<t.length:=by simp only[Z5]at h1;omega
   rw[q2 O]at hi4;simp only[xv]at hi4;conv=>whnf
   refine⟨by simp only[qG,qI];omega,?_⟩;conv=>whnf
   refine⟨vp ?_,lh0⟩;rw[<-hi4];show out++ [w2.wrap c]=out++ [c]
   congr 2
   simp[w8,w4,w9];omega
def qcp(a:List Int)(n:Int):List Int×Int:=if 256<a.length then([],9)else if n<0\/65536<n then([],2)else dnL (zgh a n.toNat)
theorem leN{h h':Hp}{e:Int}:leA h h' (.tup [.nilsl,.int .i64 e]) (dnV ([],e)):=lt0 (lc (li0 rfl) (lc (lr rfl) ln0))
theorem lg1(a:List Int): [a].any lgB=decide (256<a.length):=by simp[lgB]
theorem y218(a:List Int)(n:Int)(hb:LB a)(hl:a.length<=100000):Fn 217 [] [.sl .u32 a,.int .i64 n] (dnV (qcp a n)) []:=by
 obtain⟨A,hA⟩:∃A,qcp a n=A:=⟨_,rfl⟩;rw[hA];unfold qcp at hA;have h215:=zx2 [a] OC;rw[lg1]at h215;refine fY4 Tryz.func217 rfl ?_;refine cbI [] _ h215 (fun h1=>?_) (fun h1=>?_)
 .rw[Z6 (Z0 h1)]at hA;subst hA;conv=>whnf
  exact⟨leN,lh0⟩
 have h1:=Z3 h1;rw[Z7 h1]at hA;conv=>whnf
 refine brI (fun h2=>?_) (fun h2=>?_)
 .have h2:n<0:=by simpa using h2
  rw[Z6 (.inl h2)]at hA;subst hA;conv=>whnf
  exact⟨leN,lh0⟩
 have h2:¬n<0:=by simpa using h2
 conv=>whnf
 refine brI (fun h3=>?_) (fun h3=>?_)
 .have h3:65536<n:=by simpa using h3
  rw[Z6 (.inr h3)]at hA;subst hA;conv=>whnf
  exact⟨leN,lh0⟩
 have h3:¬65536<n:=by simpa using h3
 rw[Z7 O]at hA;have h258:=y258 a n.toNat hb hl O;have hlen:(zgh a n.toNat).length <=1000000:=by
  have:=kr a;unfold zgh;rw[qE,qF,zbk];omega
 have h221:=qcl (zgh a n.toNat) hlen;rw[hA,show((n.toNat:Nat):Int)=n by omega]at*;conv=>whnf
 refine gYn h258 ?_;refine gYn h221 ?_;exact⟨lr rfl,lh0⟩
theorem y167(a:List Int)(n:Int)(hb:LB a)(hl:a.length<=100000):Fn 230 [] [.sl .u32 a,.int .i64 n] (.sl .u32 (qcp a n).1) []:=by
 refine fY4 Tryz.func230 rfl ?_;refine gYn (y218 a n hb hl) ?_;exact⟨lr rfl,lh0⟩
def zeu(l:List Int)(r i:Nat):Int:=((l[i]?.getD 0+l[i+1]?.getD 0*4294967296)/2^r) % 4294967296
def zbi(l:List Int)(r:Nat):List Int:=(List.range l.length).map (zeu l r)
def zgg(a:List Int)(n:Nat):List Int:=if(trL a).length <=n/32 then []else zbi ((trL a).drop (n/32)) (n % 32)
theorem zjl(a:List Int)(n:Nat):(zgg a n).length <=a.length:=by
 have:=kr a;unfold zgg;split
 .simp
 .simp only[zbi,List.length_map,List.length_range,qU];omega
theorem zv1{F:List Int}{i n:Nat}{x:Int}(h:F[i]? =some x)(hn:F.length=n):(F.take i++q0 (n-i) 0).set i x=F.take (i+1)++q0 (n-(i+1)) 0:=by
 have hi:=(qK.1 h).1;have hl:(F.take i).length =i:=by rw[qC];omega
 obtain⟨m,hm⟩:∃m,n-i=m+1:=⟨n-i-1,O⟩;rw[hm,(O:n-(i+1)=m),List.replicate_succ,List.set_append_right _ _ O,hl,qZ,List.set_cons_zero,List.take_add_one,h];simp
theorem zsy{x y:Int}(hx:0<=x/\x<4294967296)(hy:0<=y/\y<4294967296):
 w3.wrap (qB 64 x|||qB 64 (w3.wrap (y*4294967296))).toNat =x+y*4294967296:=by
 obtain⟨a,rfl⟩:=qA hx.1;obtain⟨b,rfl⟩:=qA hy.1;have e2:((b:Nat):Int)*4294967296=((b*2^32:Nat):Int):=OC;rw[e2,wU (x:=((b*2^32:Nat):Int)) O,BitVec.or_comm,zsz b 32 a O O O,wU O];omega
theorem y222(a:List Int)(n:Nat)(hb:LB a)(hl:a.length<=100000)(hn:n<=100000):Fn 273 [] [.sl .u32 a,.int .i64 n] (.sl .u32 (zgg a n)) []:=by
 have htl:=kr a;have h216:=zhv a O;have hb2:=hb.tr;obtain⟨A,hA⟩:∃A,zgg a n=A:=⟨_,rfl⟩;rw[hA];unfold zgg at hA;generalize trL a=t at htl h216 hb2 hA;have hq:w1.wrap ((n:Int).tdiv 32)=((n/32:Nat):Int):=by
  rw[show(n:Int).tdiv 32=((n/32:Nat):Int)from qW n 32,wI O]
 refine fY4 Tryz.func273 rfl ?_;refine gYn h216 ?_;refine⟨O,?_⟩;conv=>whnf
 rw[hq];refine brI (fun h1=>?_) (fun h1=>?_)
 .have h1:t.length<=n/32:=by simp only[Z4]at h1;omega
  rw[Z6 h1]at hA;subst hA;conv=>whnf
  exact⟨li0 rfl,lh0⟩
 have h1:¬t.length<=n/32:=by simp only[Z5]at h1;omega
 rw[Z7 h1]at hA;conv=>whnf
 refine⟨O,?_⟩;conv=>whnf
 rw[hq];refine⟨⟨O,O,O⟩,?_⟩;have hu:((t.take ((t.length:Int)).toNat).drop (((n/32:Nat):Int)).toNat)=t.drop (n/32):=by rw[show((t.length:Int)).toNat =t.length by omega,List.take_length,show((((n/32:Nat):Int))).toNat =n/32 by omega]
 have hb3:LB (t.drop (n/32)):=fun x hx=>hb2 x (List.mem_of_mem_drop hx)
 have hul:(t.drop (n/32)).length <=100000:=by rw[qU];omega
 rw[hu];generalize t.drop (n/32)=u at hA hb3 hul;conv=>whnf
 refine⟨⟨O,O,O⟩,?_⟩;conv=>whnf
 refine⟨Nat,fun i=>i<=u.length,fun i=> [(25,.int .i64 i)],fun i=> [(22,.buf 101 .u32 (A.take i++q0 (u.length-i) 0))],fun i=>u.length-i,0,OC,?_,fun i hi=>?_⟩
 .exact KZ0
 refine gYe ?_;have hi:i<=u.length:=hi;have hAl:A.length=u.length:=by rw[<-hA];simp[zbi]
 refine brI (fun h2=>?_) (fun h2=>?_)
 .have hi:i<u.length:=by simp only[Z4]at h2;omega
  conv=>whnf
  refine⟨⟨O,O⟩,fun(x:Int)hx=>?_⟩;have hx:u[i]? =some x:=by simpa using hx
  have hxb:=hb3 x (q1 hx);have hF:A[i]? =some (zeu u (n % 32) i):=by rw[<-hA];simp[zbi,hi]
  have hstep:=zv1 hF hAl;have hp:(0:Int)<2^(n % 32):=w0 OA;have htm:((n:Int).tmod 32)=((n % 32:Nat):Int):=qQ n 32;have hfin:∀s:Int,0<=s->w2.wrap (s.fdiv (2^min ((n:Int).tmod 32).toNat 64))=(s/2^(n % 32)) % 4294967296:=fun s hs=>by
   rw[htm,(O:min ((n % 32:Nat):Int).toNat 64=n % 32),q3 _ O];simp[w8,w4,w9]
  conv=>whnf
  refine brI (fun h3=>?_) (fun h3=>?_)
  .have h3:i+1<u.length:=by
    have h3:decide (w1.wrap ((i:Int)+1)<(u.length:Int))=true:=h3;rw[wI O]at h3;simp only[Z4]at h3;omega
   conv=>whnf
   rw[wI (x:=(i:Int)+1) O];refine⟨⟨O,O⟩,fun(y:Int)hy=>?_⟩;have hy:u[i+1]? =some y:=by
    have hy:u[((i:Int)+1).toNat]? =some y:=hy;rw[show((i:Int)+1).toNat =i+1 by omega]at hy;exact hy
   have hyb:=hb3 y (q1 hy);have hor:=zsy hxb hyb;conv=>whnf
   rw[wU (x:=x) O,wU (x:=y) O];refine⟨O,?_⟩;conv=>whnf
   refine⟨O,?_⟩;conv=>whnf
   refine⟨O,?_⟩;conv=>whnf
   have hlen:(A.take i++q0 (u.length-i) 0).length =u.length:=by rw[qE,qF,qC];omega
   refine⟨⟨O,by rw[hlen];omega⟩,?_⟩;conv=>whnf
   refine⟨by show(i:Int).toNat <_;rw[hlen];omega,?_⟩;conv=>whnf
   refine⟨i+1,O,by show u.length-(i+1)<u.length-i;omega,?_⟩
   ((conv=>whnf);refine qN ?_ ?_;repeat' first|refine lc ?_ ?_|refine lh1 ?_ ?_|refine bc0 ?_|exact KXZ|refine lg0 ?_|refine lt0 ?_)
   .exact ai0 (by rw[wI O];omega)
   .exact bb0 (by
     rw[<-hstep];show qY _ (i:Int).toNat _=_;rw[show(i:Int).toNat =i by omega]
     congr 1
     rw[zeu,hx,hy];show _=(x+y*4294967296)/2^(n % 32) % 4294967296;rw[<-hfin _ O,<-hor];rfl)
  .have h3:¬i+1<u.length:=by
    have h3:decide (w1.wrap ((i:Int)+1)<(u.length:Int))=false:=h3;rw[wI O]at h3;simp only[Z5]at h3;omega
   have hy:u[i+1]? =none:=List.getElem?_eq_none O;conv=>whnf
   rw[wU (x:=x) O];refine⟨O,?_⟩;conv=>whnf
   refine⟨O,?_⟩;conv=>whnf
   have hlen:(A.take i++q0 (u.length-i) 0).length =u.length:=by rw[qE,qF,qC];omega
   refine⟨⟨O,by rw[hlen];omega⟩,?_⟩;conv=>whnf
   refine⟨by show(i:Int).toNat <_;rw[hlen];omega,?_⟩;conv=>whnf
   refine⟨i+1,O,by show u.length-(i+1)<u.length-i;omega,?_⟩
   ((conv=>whnf);refine qN ?_ ?_;repeat' first|refine lc ?_ ?_|refine lh1 ?_ ?_|refine bc0 ?_|exact KXZ|refine lg0 ?_|refine lt0 ?_)
   .exact ai0 (by rw[wI O];omega)
   .exact bb0 (by
     rw[<-hstep];show qY _ (i:Int).toNat _=_;rw[show(i:Int).toNat =i by omega]
     congr 1
     rw[zeu,hx,hy];show _=(x+0*4294967296)/2^(n % 32) % 4294967296;rw[Int.zero_mul,Int.add_zero,<-hfin _ O];rfl)
 .have hi:i=u.length:=by simp only[Z5]at h2;omega
  subst hi;conv=>whnf
  refine⟨vp ?_,lh0⟩;rw[qZ,List.replicate_zero,List.append_nil,List.take_of_length_le O]
def shrR(a:List Int)(n:Int):List Int×Int:=if 256<a.length then([],9)else if n<0\/65536<n then([],2)else dnL (zgg a n.toNat)
theorem y172(a:List Int)(n:Int)(hb:LB a)(hl:a.length<=100000):Fn 224 [] [.sl .u32 a,.int .i64 n] (dnV (shrR a n)) []:=by
 obtain⟨A,hA⟩:∃A,shrR a n=A:=⟨_,rfl⟩;rw[hA];unfold shrR at hA;have h215:=zx2 [a] OC;rw[lg1]at h215;refine fY4 Tryz.func224 rfl ?_;refine cbI [] _ h215 (fun h1=>?_) (fun h1=>?_)
 .rw[Z6 (Z0 h1)]at hA;subst hA;conv=>whnf
  exact⟨leN,lh0⟩
 have h1:=Z3 h1;rw[Z7 h1]at hA;conv=>whnf
 refine brI (fun h2=>?_) (fun h2=>?_)
 .have h2:n<0:=by simpa using h2
  rw[Z6 (.inl h2)]at hA;subst hA;conv=>whnf
  exact⟨leN,lh0⟩
 have h2:¬n<0:=by simpa using h2
 conv=>whnf
 refine brI (fun h3=>?_) (fun h3=>?_)
 .have h3:65536<n:=by simpa using h3
  rw[Z6 (.inr h3)]at hA;subst hA;conv=>whnf
  exact⟨leN,lh0⟩
 have h3:¬65536<n:=by simpa using h3
 rw[Z7 O]at hA;have h222:=y222 a n.toNat hb hl O;have hlen:=zjl a n.toNat;have h221:=qcl (zgg a n.toNat) O;rw[hA]at h221;rw[show((n.toNat:Nat):Int)=n by omega]at h222;conv=>whnf
 refine gYn h222 ?_;refine gYn h221 ?_;exact⟨lr rfl,lh0⟩
def zfn(x:Int):List Int->Nat->List Int->Int->List Int×Int
 | [],_,out,c=>(out,c)
 |y::b,p,out,c=>zfn x b (p+1) (out.set p ((x*y+out[p]?.getD 0+c) % 4294967296)) ((x*y+out[p]?.getD 0+c)/4294967296)
def zj2(b:List Int):List Int->Nat->List Int->List Int
 | [],_,out=>out
 |x::a,i,out=>zj2 b a (i+1) ((zfn x b i out 0).1.set (i+b.length) (zfn x b i out 0).2)
def zvf(a b:List Int):List Int:=zj2 b a 0 (q0 (a.length+b.length) 0)
theorem LB.set{l:List Int}(h:LB l){i:Nat}{x:Int}(hx:0<=x/\x<4294967296):LB (l.set i x):=fun y hy=>by
 rcases List.mem_or_eq_of_mem_set hy with h1|h1
 .exact h y h1
 .rw[h1];exact hx
theorem LB.at{l:List Int}(h:LB l)(i:Nat):0<=l[i]?.getD 0/\l[i]?.getD 0<4294967296:=by
 cases e:l[i]? with
 |none=>simp
 |some x=>exact h x (q1 e)
theorem zs9{x y o c:Int}(hx:0<=x/\x<4294967296)(hy:0<=y/\y<4294967296)(ho:0<=o/\o<4294967296)(hc:0<=c/\c<4294967296):
 0<=x*y/\x*y<=18446744065119617025/\0<=x*y+o+c/\x*y+o+c<18446744073709551616:=by
 have h1:0<=x*y:=qX hx.1 hy.1;have h2:x*y<=4294967295*4294967295:=Int.mul_le_mul O O hy.1 O;omega
theorem y267(a b:List Int)(ha:LB a)(hb:LB b)(hal:a.length<=100000)(hbl:b.length<=100000):Fn 274 [] [.sl .u32 a,.sl .u32 b] (.sl .u32 (zvf a b)) []:=by
 obtain⟨A,hA⟩:∃A,zvf a b=A:=⟨_,rfl⟩;rw[hA];unfold zvf at hA;refine fY4 Tryz.func274 rfl ?_;rw[wI (x:=(a.length:Int)+(b.length:Int)) O];refine⟨⟨O,O,O⟩,?_⟩;conv=>whnf
 refine⟨Nat×List Int,fun x=>x.1<=a.length/\LB x.2/\x.2.length=a.length+b.length/\zj2 b (a.drop x.1) x.1 x.2=A,fun x=> [(20,.int .i64 x.1)],fun x=> [(17,.buf 101 .u32 x.2)],fun x=>a.length-x.1,(0,q0 (a.length+b.length) 0),⟨OC,fun x hx=>by rw[List.eq_of_mem_replicate hx];omega,OC,by simpa using hA⟩,?_,fun x hx=>?_⟩
 .exact KZ0
 refine gYe ?_;obtain⟨i,out⟩:=x;obtain⟨hi1,hi2,hi3,hi4⟩:=hx;simp only at hi1 hi2 hi3 hi4;refine brI (fun h1=>?_) (fun h1=>?_)
 .have hi:i<a.length:=by simp only[Z4]at h1;omega
  conv=>whnf
  refine⟨⟨O,OD⟩,fun(x:Int)hx=>?_⟩;have hx:a[i]? =some x:=by simpa using hx
  have hxb:=ha x (q1 hx);rw[qh hx]at hi4;simp only[zj2]at hi4;conv=>whnf
  refine⟨Nat×List Int×Int,fun z=>z.1<=b.length/\LB z.2.1/\z.2.1.length=a.length+b.length/\(0<=z.2.2/\z.2.2<4294967296)/\zfn x (b.drop z.1) (i+z.1) z.2.1 z.2.2=zfn x b i out 0,fun z=> [(27,.int .i64 z.1),(8,.int .u64 z.2.2)],fun z=> [(17,.buf 101 .u32 z.2.1)],fun z=>b.length-z.1,(0,out,0),⟨OC,hi2,hi3,OC,OC⟩,?_,fun z hz=>?_⟩
  .exact KZ0
  refine gYe ?_;obtain⟨k,o2,c⟩:=z;obtain⟨hk1,hk2,hk3,hk4,hk5⟩:=hz;simp only at hk1 hk2 hk3 hk4 hk5;refine brI (fun h2=>?_) (fun h2=>?_)
  .have hk:k<b.length:=by simp only[Z4]at h2;omega
   conv=>whnf
   refine⟨⟨O,OD⟩,fun(y:Int)hy=>?_⟩;have hy:b[k]? =some y:=by simpa using hy
   have hyb:=hb y (q1 hy);rw[qh hy]at hk5;simp only[zfn]at hk5;have hob:=hk2.at (i+k);have hbd:=zs9 hxb hyb hob hk4;have hik:w1.wrap ((i:Int)+(k:Int))=((i+k:Nat):Int):=by rw[wI O];omega
   conv=>whnf
   refine⟨⟨by show 0<=w1.wrap ((i:Int)+(k:Int));rw[hik];omega,by show w1.wrap ((i:Int)+(k:Int))<(o2.length:Int);rw[hik];omega⟩,?_⟩;conv=>whnf
   refine⟨by show(w1.wrap ((i:Int)+(k:Int))).toNat <o2.length;rw[hik];omega,fun(o:Int)ho=>?_⟩;have ho:o2[i+k]? =some o:=by
    have ho:o2[(w1.wrap ((i:Int)+(k:Int))).toNat]? =some o:=ho;rw[hik,show(((i+k:Nat):Int)).toNat =i+k by omega]at ho;exact ho
   rw[ho]at hob hbd hk5;simp only[q4]at hob hbd hk5;have hsum:w3.wrap (w3.wrap (w3.wrap (w3.wrap x*w3.wrap y)+w3.wrap o)+c)=x*y+o+c:=by
    rw[wU (x:=x) O,wU (x:=y) O,wU (x:=o) O,wU (x:=x*y) O,wU (x:=x*y+o) O,wU O]
   obtain⟨s,hs⟩:∃s,x*y+o+c=s:=⟨_,rfl⟩;rw[hs]at hbd hk5 hsum;conv=>whnf
   refine⟨O,?_⟩;conv=>whnf
   refine⟨⟨by show 0<=w1.wrap ((i:Int)+(k:Int));rw[hik];omega,by show w1.wrap ((i:Int)+(k:Int))<(o2.length:Int);rw[hik];omega⟩,?_⟩;conv=>whnf
   refine⟨by show(w1.wrap ((i:Int)+(k:Int))).toNat <o2.length;rw[hik];omega,?_⟩;conv=>whnf
   have e1:w2.wrap s=s % 4294967296:=by simp[w8,w4,w9]
   have e2:s.fdiv 4294967296=s/4294967296:=q3 _ OA;refine⟨(k+1,o2.set (i+k) (s % 4294967296),s/4294967296),⟨OD,hk2.set O,by simp only[qV];exact hk3,⟨OD,OD⟩,hk5⟩,by show b.length-(k+1)<b.length-k;omega,?_⟩
   ((conv=>whnf);refine qN ?_ ?_;repeat' first|refine lc ?_ ?_|refine lh1 ?_ ?_|refine bc0 ?_|exact KXZ|refine lg0 ?_|refine lt0 ?_)
   .exact ai0 ((congrArg (fun z:Int=>z.fdiv 4294967296) hsum).trans e2)
   .exact ai0 (by rw[wI OD];simp only;omega)
   .exact bb0 (by
     show qY o2 (w1.wrap ((i:Int)+(k:Int))).toNat (w2.wrap _)=o2.set (i+k) (s % 4294967296);rw[hik,show(((i+k:Nat):Int)).toNat =i+k by omega,<-e1,<-hsum])
   all_goals trace_state
  .have hk:k=b.length:=by simp only[Z5]at h2;omega
   subst hk;rw[q2 O]at hk5;simp only[zfn]at hk5;rw[<-hk5]at hi4;have hik:w1.wrap ((i:Int)+(b.length:Int))=((i+b.length:Nat):Int):=by rw[wI O];omega
   conv=>whnf
   refine⟨⟨by show 0<=w1.wrap ((i:Int)+(b.length:Int));rw[hik];omega,by show w1.wrap ((i:Int)+(b.length:Int))<(o2.length:Int);rw[hik];omega⟩,?_⟩;conv=>whnf
   refine⟨by show(w1.wrap ((i:Int)+(b.length:Int))).toNat <o2.length;rw[hik];omega,?_⟩;conv=>whnf
   have e1:w2.wrap c=c:=by simp[w8,w4,w9];omega
   refine⟨(i+1,o2.set (i+b.length) c),⟨OD,hk2.set hk4,by simp only[qV];exact hk3,hi4⟩,by show a.length-(i+1)<a.length-i;omega,?_⟩
   ((conv=>whnf);refine qN ?_ ?_;repeat' first|refine lc ?_ ?_|refine lh1 ?_ ?_|refine bc0 ?_|exact KXZ|refine lg0 ?_|refine lt0 ?_)
   .exact ai0 (by rw[wI OD];simp only;omega)
   .exact bb0 (by
     show qY o2 (w1.wrap ((i:Int)+(b.length:Int))).toNat (w2.wrap c)=o2.set (i+b.length) c;rw[hik,show(((i+b.length:Nat):Int)).toNat =i+b.length by omega,e1])
   all_goals trace_state
 .have hi:i=a.length:=by simp only[Z5]at h1;omega
  subst hi;rw[q2 O]at hi4;simp only[zj2]at hi4;conv=>whnf
  exact⟨vp hi4,lh0⟩
theorem zo1(x:Int):∀(b:List Int)(p:Nat)(out:List Int)(c:Int),(zfn x b p out c).1.length =out.length
 | [],_,out,c=>rfl
 |y::b,p,out,c=>by simp[zfn,zo1 x b]
theorem zfx(b:List Int):∀(a:List Int)(i:Nat)(out:List Int),(zj2 b a i out).length =out.length
 | [],_,_=>rfl
 |x::a,i,out=>by simp[zj2,zfx b a,zo1]
theorem zwo(a b:List Int):(zvf a b).length =a.length+b.length:=by simp[zvf,zfx]
def qei(a b:List Int):List Int×Int:=if 256<a.length\/256<b.length then([],9)else dnL (zvf (trL a) (trL b))
theorem y225(a b:List Int)(ha:LB a)(hb:LB b)(hal:a.length<=100000)(hbl:b.length<=100000):Fn 227 [] [.sl .u32 a,.sl .u32 b] (dnV (qei a b)) []:=by
 obtain⟨A,hA⟩:∃A,qei a b=A:=⟨_,rfl⟩;rw[hA];unfold qei at hA;have h215:=zx2 [a,b] OC;have hlg: [a,b].any lgB=(decide (256<a.length)||decide (256<b.length)):=by simp[lgB]
 rw[hlg]at h215;have hta:=kr a;have htb:=kr b;have hml:=zwo (trL a) (trL b);refine fY4 Tryz.func227 rfl ?_;refine cbI [] _ h215 (fun h1=>?_) (fun h1=>?_)
 .rw[Z6 (by simpa using h1)]at hA;subst hA;conv=>whnf
  exact⟨leN,lh0⟩
 rw[Z7 (by simp only[Bool.or_eq_false_iff,Z5]at h1;omega)]at hA;have h267:=y267 (trL a) (trL b) ha.tr hb.tr O O;have h221:=qcl (zvf (trL a) (trL b)) O;rw[hA]at h221;conv=>whnf
 refine gYn (zhv a O) ?_;refine gYn (zhv b O) ?_;refine gYn h267 ?_;refine gYn h221 ?_;exact⟨lr rfl,lh0⟩
def zav(a b:List Int):Nat->Int
 |0=>0
 |n+1=>if a[n]?.getD 0<b[n]?.getD 0 then-1 else if b[n]?.getD 0<a[n]?.getD 0 then 1 else zav a b n
def qbz(a b:List Int):Int:=if(trL a).length <(trL b).length then-1 else if(trL b).length <(trL a).length then 1 else zav (trL a) (trL b) (trL a).length
theorem qc9(a b:List Int)(hal:a.length<=1000000)(hbl:b.length<=1000000):Fn 168 [] [.sl .u32 a,.sl .u32 b] (.int .i64 (qbz a b)) []:=by
 have hta:=kr a;have htb:=kr b;have ha:=zhv a O;have hb:=zhv b O;obtain⟨A,hA⟩:∃A,qbz a b=A:=⟨_,rfl⟩;rw[hA];unfold qbz at hA;generalize trL a=s at hta ha hA;generalize trL b=t at htb hb hA;refine fY4 Tryz.func168 rfl ?_;refine gYn ha ?_;refine gYn hb ?_;refine brI (fun h1=>?_) (fun h1=>?_)
 .have h1:((s.length:Int) != (t.length:Int))=true:=h1;have h1:(s.length:Int)≠t.length:=by simpa using h1
  conv=>whnf
  refine brI (fun h2=>?_) (fun h2=>?_)
  .have h2:s.length<t.length:=by simp only[Z4]at h2;omega
   rw[Z6 h2]at hA;subst hA;conv=>whnf
   exact⟨lr rfl,lh0⟩
  .have h2:¬s.length<t.length:=by simp only[Z5]at h2;omega
   rw[Z7 h2,Z6 O]at hA;subst hA;conv=>whnf
   exact⟨lr rfl,lh0⟩
 have h1:((s.length:Int) != (t.length:Int))=false:=h1;have h1:(s.length:Int)=t.length:=by simpa using h1
 rw[Z7 O,Z7 O]at hA;conv=>whnf
 rw[wI (x:=(s.length:Int)-1) O];refine⟨Nat,fun n=>n<=s.length/\zav s t n=A,fun n=> [(5,.int .i64 ((n:Int)-1))],fun _=> [],fun n=>n,s.length,⟨qL _,hA⟩,?_,fun n hn=>?_⟩
 .exact KZ0
 refine gYe ?_;obtain⟨hn1,hn2⟩:=hn;refine brI (fun h2=>?_) (fun h2=>?_)
 .have h2:0<n:=by simp only[Z4]at h2;omega
  obtain⟨m,rfl⟩:∃m,n=m+1:=⟨n-1,O⟩;have hm:(((m+1:Nat):Int)-1)=(m:Int):=O;have hms:m<s.length:=O;have hmt:m<t.length:=O;have hxs:s[m]? =some s[m]:=qM hms;have hxt:t[m]? =some t[m]:=qM hmt;obtain⟨x,hx⟩:∃x:Int,s[m]=x:=⟨_,rfl⟩;obtain⟨y,hy⟩:∃y:Int,t[m]=y:=⟨_,rfl⟩;rw[hx]at hxs;rw[hy]at hxt;simp only[zav,hxs,hxt,q4]at hn2;conv=>whnf
  rw[hm];refine⟨⟨O,O⟩,fun(z:Int)hz=>?_⟩;have hz:s[m]? =some z:=by simpa using hz
  rw[hxs]at hz;cases hz
  conv=>whnf
  refine⟨⟨O,O⟩,fun(z:Int)hz=>?_⟩;have hz:t[m]? =some z:=by simpa using hz
  rw[hxt]at hz;cases hz
  conv=>whnf
  refine gYd ?_;refine brI (fun h3=>?_) (fun h3=>?_)
  .have h3:x<y:=by simpa using h3
   rw[Z6 h3]at hn2;conv=>whnf
   exact⟨ai0 hn2,lh0⟩
  have h3:¬x<y:=by simpa using h3
  rw[Z7 h3]at hn2;conv=>whnf
  refine⟨⟨O,O⟩,fun(z:Int)hz=>?_⟩;have hz:s[m]? =some z:=by simpa using hz
  rw[hxs]at hz;cases hz
  conv=>whnf
  refine⟨⟨O,O⟩,fun(z:Int)hz=>?_⟩;have hz:t[m]? =some z:=by simpa using hz
  rw[hxt]at hz;cases hz
  conv=>whnf
  refine gYd ?_;refine brI (fun h4=>?_) (fun h4=>?_)
  .have h4:y<x:=by simpa using h4
   rw[Z6 h4]at hn2;conv=>whnf
   exact⟨ai0 hn2,lh0⟩
  have h4:¬y<x:=by simpa using h4
  rw[Z7 h4]at hn2;conv=>whnf
  refine⟨m,⟨O,hn2⟩,by show m<m+1;omega,?_⟩;exact KZ0
 .have h2:n=0:=by simp only[Z5]at h2;omega
  subst h2;simp only[zav]at hn2;conv=>whnf
  exact⟨ai0 hn2,lh0⟩
def d0:Dy:=⟨false,[],0⟩
theorem zyq{h h':Hp}:leA h h' (.agg [.bool false,.nilsl,.int .i64 0]) (.agg (dyC d0)):=lg0 (lc (lr rfl) (lc (li0 rfl) (lc (lr rfl) ln0)))
theorem qfu{l:List Int}(h:LB l):0<=btL l/\btL l<=32*l.length/\(btL l=0<->trL l= [])/\(0<(trL l).length ->32*((trL l).length -1)<btL l):=by
 have htl:=kr l;have hb:=h.tr;unfold btL
 cases hg:(trL l).getLast? with
 |none=>
  rw[List.getLast?_eq_none_iff]at hg;simp only[hg,qI];exact⟨O,O,OC,O⟩
 |some x=>
  have hm:x∈trL l:=List.mem_of_getLast? hg;have hx:=hb x hm;have hlen:0<(trL l).length :=List.length_pos_of_mem hm;have hle:=zmi (x:=x.toNat) O;have hx0:x≠0:=by
   rcases zn6 l l.length with h1|⟨m,y,h1,h2,h3⟩
   .have:trL l= []:=by rw[trL,h1];simp
    rw[this]at hm;cases hm
   .have h4:(trL l).getLast? =some y:=by
     have hml:=(qK.1 h2).1;rw[qD,trL,h1,qC,List.getElem?_take,Z6 O];rw[(O:min (m+1) l.length-1=m)];exact h2
    rw[hg]at h4;cases h4;exact h3
  have hpos:1<=w5 x.toNat:=by
   rw[Lib.bitLen_half x.toNat O O];omega
  simp only;refine⟨O,O,⟨fun h=>O,fun h=>by rw[h]at hlen;simp at hlen⟩,fun _=>O⟩
theorem LB.dn{l:List Int}(h:LB l):LB (dnL l).1:=by
 unfold dnL;split
 .exact fun x hx=>by cases hx
 .exact h.tr
theorem LB.shr(l:List Int)(n:Nat):LB (zgg l n):=by
 unfold zgg;split
 .exact fun x hx=>by cases hx
 .intro x hx;simp only[zbi,List.mem_map]at hx;obtain⟨i,_,rfl⟩:=hx;unfold zeu;omega
theorem LB.shrR(l:List Int)(n:Int):LB (shrR l n).1:=by
 unfold Go.Proofs.YtlbmkjbgfkgcmaaGreatDoor.shrR;split
 .exact fun x hx=>by cases hx
 .split
  .exact fun x hx=>by cases hx
  .exact(LB.shr _ _).dn
theorem qbp(l:List Int):(dnL l).1.length <=256:=by
 unfold dnL;split
 .simp
 .simp only;omega
theorem zoe(l:List Int)(n:Int):(shrR l n).1.length <=256:=by
 unfold Go.Proofs.YtlbmkjbgfkgcmaaGreatDoor.shrR;split
 .simp
 .split
  .simp
  .exact qbp _
def irB(d:Dy):Bool:=decide (btL d.m=0)||(decide (btL d.m<=4096)&&decide (-16384<=d.e)&&decide (d.e<=16384)&&decide (btL d.m+d.e<=16384))
theorem y123(d:Dy)(hb:LB d.m)(hl:d.m.length<=1000000):Fn 86 [] [.agg (dyC d)] (.bool (irB d)) []:=by
 obtain⟨neg,m,e⟩:=d;simp only at hb hl;have h175:=y175 m hb hl;have hbd:=qfu hb;unfold irB;simp only;generalize btL m=n at h175 hbd;show Fn 86 [] [.agg [.bool neg,.sl .u32 m,.int .i64 e]] _ [];refine fY4 Tryz.func86 rfl ?_;refine gYn h175 ?_;refine brI (fun h1=>?_) (fun h1=>?_)
 .have h1:n=0:=by simpa using h1
  conv=>whnf
  exact⟨ab0 (by simp[h1]),lh0⟩
 have h1:¬n=0:=by simpa using h1
 conv=>whnf
 refine brI (fun h2=>?_) (fun h2=>?_)
 rotate_left
 .have h2:¬n<=4096:=by simpa using h2
  conv=>whnf
  exact⟨ab0 (by simp[h1,h2]),lh0⟩
 have h2:n<=4096:=by simpa using h2
 conv=>whnf
 refine brI (fun h3=>?_) (fun h3=>?_)
 rotate_left
 .have h3:¬ -16384<=e:=by simpa using h3
  conv=>whnf
  exact⟨ab0 (by simp[h1,h2,h3]),lh0⟩
 have h3: -16384<=e:=by simpa using h3
 conv=>whnf
 refine brI (fun h4=>?_) (fun h4=>?_)
 rotate_left
 .have h4:¬e<=16384:=by simpa using h4
  conv=>whnf
  exact⟨ab0 (by simp[h1,h2,h3,h4]),lh0⟩
 have h4:e<=16384:=by simpa using h4
 conv=>whnf
 refine⟨ab0 ?_,lh0⟩;rw[wI O];simp[h1,h2,h3,h4]
def vB(d:Dy):Bool:=if d.m.length=0 then !d.neg&&decide (d.e=0)else decide (d.m.length<=256)&&decide ((d.m[0]?.getD 0).tmod 2=1)&&decide ((d.m.getLast?).getD 0≠0)&&irB d
theorem y80(d:Dy)(hb:LB d.m)(hl:d.m.length<9223372036854775808):Fn 49 [] [.agg (dyC d)] (.bool (vB d)) []:=by
 have h123:=fun h:d.m.length<=256=>y123 d hb O
 obtain⟨R,hR⟩:∃R,irB d=R:=⟨_,rfl⟩;obtain⟨A,hA⟩:∃A,vB d=A:=⟨_,rfl⟩;rw[hA];unfold vB at hA;rw[hR]at hA h123;obtain⟨neg,m,e⟩:=d;simp only at hb hl hA;have h123:m.length<=256->Fn 86 [] [.agg [.bool neg,.sl .u32 m,.int .i64 e]] (.bool R) []:=h123;show Fn 49 [] [.agg [.bool neg,.sl .u32 m,.int .i64 e]] _ [];refine fY4 Tryz.func49 rfl ?_;refine brI (fun h1=>?_) (fun h1=>?_)
 .have h1:m.length=0:=by
   have h1:((m.length:Int)==0)=true:=h1;rw[beq_iff_eq]at h1;omega
  rw[Z6 h1]at hA;subst hA
  cases neg with
  |true=>
   conv=>whnf
   exact⟨ab0 OC,lh0⟩
  |false=>
   conv=>whnf
   exact⟨ab0 (by rw[Bool.eq_iff_iff];simp),lh0⟩
 have h1:m.length≠0:=by
  have h1:((m.length:Int)==0)=false:=h1;rw[beq_eq_false_iff_ne]at h1;omega
 rw[Z7 h1]at hA;conv=>whnf
 refine brI (fun h2=>?_) (fun h2=>?_)
 rotate_left
 .have h2:¬m.length<=256:=by simp only[Z5]at h2;omega
  rw[Z9 h2]at hA;subst hA;conv=>whnf
  exact⟨ab0 OC,lh0⟩
 have h2:m.length<=256:=by simp only[Z4]at h2;omega
 rw[Z8 h2,Bool.true_and]at hA;conv=>whnf
 refine⟨⟨O,O⟩,fun(x:Int)hx=>?_⟩;have hx:m[0]? =some x:=hx;rw[hx]at hA;simp only[q4]at hA;conv=>whnf
 refine⟨O,?_⟩;conv=>whnf
 refine brI (fun h3=>?_) (fun h3=>?_)
 rotate_left
 .have h3:¬x.tmod 2=1:=by simpa using h3
  rw[Z9 h3]at hA;subst hA;conv=>whnf
  exact⟨ab0 OC,lh0⟩
 have h3:x.tmod 2=1:=by simpa using h3
 rw[Z8 h3,Bool.true_and]at hA;conv=>whnf
 rw[wI (x:=(m.length:Int)-1) O];refine⟨⟨O,O⟩,fun(y:Int)hy=>?_⟩;have hy:m.getLast?=some y:=by
  have hy:m[((m.length:Int)-1).toNat]? =some y:=hy;rw[qD,<-hy];congr 1;omega
 rw[hy]at hA;simp only[q4]at hA;conv=>whnf
 refine brI (fun h4=>?_) (fun h4=>?_)
 rotate_left
 .have h4:¬y≠0:=by simpa using h4
  rw[Z9 h4]at hA;subst hA;conv=>whnf
  exact⟨ab0 OC,lh0⟩
 have h4:y≠0:=by simpa using h4
 rw[Z8 h4,Bool.true_and]at hA;subst hA;conv=>whnf
 refine gYn (h123 h2) ?_;exact⟨lr rfl,lh0⟩
abbrev dyV(p:Dy×Int):AV:=.tup [.agg (dyC p.1),.int .i64 p.2]
theorem zq5{h h':Hp}{e:Int}:leA h h' (.tup [.agg [.bool false,.nilsl,.int .i64 0],.int .i64 e]) (dyV (d0,e)):=lt0 (lc zyq (lc (lr rfl) ln0))
def ckD(d:Dy):Dy×Int:=if irB d=true then(d,0)else(d0,9)
theorem y269(d:Dy)(hb:LB d.m)(hl:d.m.length<=1000000):Fn 172 [] [.agg (dyC d)] (dyV (ckD d)) []:=by
 have h123:=y123 d hb hl;obtain⟨A,hA⟩:∃A,ckD d=A:=⟨_,rfl⟩;rw[hA];unfold ckD at hA;obtain⟨neg,m,e⟩:=d;have h123:Fn 86 [] [.agg [.bool neg,.sl .u32 m,.int .i64 e]] (.bool (irB ⟨neg,m,e⟩)) []:=h123;show Fn 172 [] [.agg [.bool neg,.sl .u32 m,.int .i64 e]] _ [];refine fY4 Tryz.func172 rfl ?_;refine cbI [] _ h123 (fun h1=>?_) (fun h1=>?_)
 .rw[Z6 h1]at hA;subst hA;conv=>whnf
  exact⟨lr rfl,lh0⟩
 .rw[Z7 (by rw[h1];simp)]at hA;subst hA;conv=>whnf
  exact⟨zq5,lh0⟩
def exB(e:Int):Bool:=decide (-32768<=e)&&decide (e<=32768)
theorem y268(e:Int):Fn 171 [] [.int .i64 e] (.bool (exB e)) []:=by
 refine fY4 Tryz.func171 rfl ?_;refine brI (fun h1=>?_) (fun h1=>?_)
 .have h1: -32768<=e:=by simpa using h1
  conv=>whnf
  exact⟨ab0 (by simp[exB,h1]),lh0⟩
 .have h1:¬ -32768<=e:=by simpa using h1
  conv=>whnf
  exact⟨ab0 (by simp[exB,h1]),lh0⟩
def cnD(neg:Bool)(m:List Int)(e:Int):Dy:=if(trL m).length =0 then d0 else⟨neg,(shrR (trL m) (lwL (trL m) 0)).1,e+lwL (trL m) 0⟩
theorem zyo:∀(l:List Int)(n:Int),LB l->n<=lwL l n/\lwL l n<=n+32*l.length
 | [],n,_=>by simp[lwL]
 |x::l,n,h=>by
  have hx:=h x List.mem_cons_self;have ih:=zyo l (n+32) fun y hy=>h y (List.mem_cons_of_mem _ hy)
  simp only[lwL,qG];split
  .omega
  .rename_i h0;have:=(wi 32 x.toNat O O).2;omega
theorem y122(neg:Bool)(m:List Int)(e:Int)(hb:LB m)(hl:m.length<=100000)(he: -1000000000<=e/\e<=1000000000):Fn 173 G0 [.bool neg,.sl .u32 m,.int .i64 e] (.agg (dyC (cnD neg m e))) G0:=by
 obtain⟨A,hA⟩:∃A,cnD neg m e=A:=⟨_,rfl⟩;rw[hA];unfold cnD at hA;have htl:=kr m;have h170:=y170 m O;have hb2:=hb.tr;generalize trL m=t at htl h170 hb2 hA;have hlw:=zyo t 0 hb2;have h171:=y171 t hb2 O;generalize lwL t 0=n at hA hlw h171;have h172:=y172 t n hb2 O;have hsl:=zoe t n;obtain⟨⟨x,err⟩,hx⟩:∃X,shrR t n=X:=⟨_,rfl⟩;rw[hx]at hA h172 hsl;simp only at hA hsl;have h174:=y174 x O;have h173:=y173 x O;refine fY4 Tryz.func173 rfl ?_;refine gYn h170 ?_;refine brI (fun h1=>?_) (fun h1=>?_)
 .have h1:t.length=0:=by
   have h1:((t.length:Int)==0)=true:=h1;rw[beq_iff_eq]at h1;omega
  rw[Z6 h1]at hA;subst hA;conv=>whnf
  exact⟨zyq,leG⟩
 have h1:t.length≠0:=by
  have h1:((t.length:Int)==0)=false:=h1;rw[beq_eq_false_iff_ne]at h1;omega
 rw[Z7 h1]at hA;subst hA;conv=>whnf
 refine gYc h171 ?_;refine gYn h172 ?_;refine gYn h174 ?_;refine gYn h173 ?_;refine⟨lg0 (lc (lr rfl) (lc (lr rfl) (lc (ai0 ?_) ln0))),leG⟩;rw[wI O]
theorem qfq(neg:Bool)(m:List Int)(e:Int):LB (cnD neg m e).m /\(cnD neg m e).m.length <=256:=by
 unfold cnD;split
 .refine⟨fun x hx=>?_,by simp[d0]⟩;cases hx
 .exact⟨LB.shrR _ _,zoe _ _⟩
def mkD(neg:Bool)(m:List Int)(e:Int):Dy×Int:=if 256<m.length\/exB e=false then(d0,1)else ckD (cnD neg m e)
theorem y265(neg:Bool)(m:List Int)(e:Int)(hb:LB m)(hl:m.length<=100000)(he: -1000000000<=e/\e<=1000000000):Fn 300 G0 [.bool neg,.sl .u32 m,.int .i64 e] (dyV (mkD neg m e)) G0:=by
 obtain⟨A,hA⟩:∃A,mkD neg m e=A:=⟨_,rfl⟩;rw[hA];unfold mkD at hA;have h122:=y122 neg m e hb hl he;obtain⟨hc1,hc2⟩:=qfq neg m e;have h269:=y269 (cnD neg m e) hc1 O;have h268:=y268 e;obtain⟨B,hB⟩:∃B,ckD (cnD neg m e)=B:=⟨_,rfl⟩;rw[hB]at h269 hA;generalize cnD neg m e=c at h122 h269;obtain⟨c1,c2,c3⟩:=c;obtain⟨⟨b1,b2,b3⟩,b4⟩:=B;refine fY4 Tryz.func300 rfl ?_;refine brI (fun h1=>?_) (fun h1=>?_)
 .rw[Z6 (.inl (by simp only[Z4]at h1;omega))]at hA;subst hA;conv=>whnf
  exact⟨zq5,leG⟩
 have h1:¬256<m.length:=by simp only[Z5]at h1;omega
 conv=>whnf
 refine cbI [] _ h268 (fun h2=>?_) (fun h2=>?_)
 rotate_left
 .rw[Z6 (.inr h2)]at hA;subst hA;conv=>whnf
  exact⟨zq5,leG⟩
 rw[Z7 (by rw[h2];simp;omega)]at hA;subst hA;conv=>whnf
 refine gYc h122 ?_;refine gYn h269 ?_;exact⟨lr rfl,leG⟩
def sgD(d:Dy):Int:=if vB d=false\/d.m.length=0 then 0 else if d.neg=true then-1 else 1
theorem y124(d:Dy)(hb:LB d.m)(hl:d.m.length<=1000000):Fn 92 [] [.agg (dyC d)] (.int .i64 (sgD d)) []:=by
 have h80:=y80 d hb O;obtain⟨A,hA⟩:∃A,sgD d=A:=⟨_,rfl⟩;rw[hA];unfold sgD at hA;obtain⟨neg,m,e⟩:=d;simp only at hl hA;have h80:Fn 49 [] [.agg [.bool neg,.sl .u32 m,.int .i64 e]] (.bool (vB ⟨neg,m,e⟩)) []:=h80;show Fn 92 [] [.agg [.bool neg,.sl .u32 m,.int .i64 e]] _ [];refine fY4 Tryz.func92 rfl ?_;refine cbI [] _ h80 (fun h1=>?_) (fun h1=>?_)
 rotate_left
 .rw[Z6 (.inl h1)]at hA;subst hA;conv=>whnf
  exact⟨lr rfl,lh0⟩
 conv=>whnf
 refine brI (fun h2=>?_) (fun h2=>?_)
 .have h2:m.length=0:=by
   have h2:((m.length:Int)==0)=true:=h2;rw[beq_iff_eq]at h2;omega
  rw[Z6 (.inr h2)]at hA;subst hA;conv=>whnf
  exact⟨lr rfl,lh0⟩
 have h2:m.length≠0:=by
  have h2:((m.length:Int)==0)=false:=h2;rw[beq_eq_false_iff_ne]at h2;omega
 rw[Z7 (by rw[h1];simp;exact fun h=>h2 (by rw[h];rfl))]at hA;conv=>whnf
 cases neg with
 |true=>
  rw[Z6 rfl]at hA;subst hA;conv=>whnf
  exact⟨lr rfl,lh0⟩
 |false=>
  rw[Z7 OC]at hA;subst hA;conv=>whnf
  exact⟨lr rfl,lh0⟩
def ngD(d:Dy):Dy:=if vB d=false\/d.m.length=0 then d0 else⟨!d.neg,d.m,d.e⟩
theorem y135(d:Dy)(hb:LB d.m)(hl:d.m.length<=1000000):Fn 175 [] [.agg (dyC d)] (.agg (dyC (ngD d))) []:=by
 have h80:=y80 d hb O;obtain⟨A,hA⟩:∃A,ngD d=A:=⟨_,rfl⟩;rw[hA];unfold ngD at hA;obtain⟨neg,m,e⟩:=d;simp only at hl hA;have h80:Fn 49 [] [.agg [.bool neg,.sl .u32 m,.int .i64 e]] (.bool (vB ⟨neg,m,e⟩)) []:=h80;have h174:=y174 m hl;show Fn 175 [] [.agg [.bool neg,.sl .u32 m,.int .i64 e]] _ [];refine fY4 Tryz.func175 rfl ?_;refine cbI [] _ h80 (fun h1=>?_) (fun h1=>?_)
 rotate_left
 .rw[Z6 (.inl h1)]at hA;subst hA;conv=>whnf
  exact⟨zyq,lh0⟩
 conv=>whnf
 refine brI (fun h2=>?_) (fun h2=>?_)
 .have h2:m.length=0:=by
   have h2:((m.length:Int)==0)=true:=h2;rw[beq_iff_eq]at h2;omega
  rw[Z6 (.inr h2)]at hA;subst hA;conv=>whnf
  exact⟨zyq,lh0⟩
 have h2:m.length≠0:=by
  have h2:((m.length:Int)==0)=false:=h2;rw[beq_eq_false_iff_ne]at h2;omega
 rw[Z7 (by rw[h1];simp;exact fun h=>h2 (by rw[h];rfl))]at hA;subst hA;conv=>whnf
 refine gYn h174 ?_;refine gYd ?_;exact⟨lr rfl,lh0⟩
def pcB(p:Int):Bool:=decide (8<=p)&&decide (p<=512)
theorem y214(p:Int):Fn 266 [] [.int .i64 p] (.bool (pcB p)) []:=by
 refine fY4 Tryz.func266 rfl ?_;refine brI (fun h1=>?_) (fun h1=>?_)
 .have h1:8<=p:=by simpa using h1
  conv=>whnf
  exact⟨ab0 (by simp[pcB,h1]),lh0⟩
 .have h1:¬8<=p:=by simpa using h1
  conv=>whnf
  exact⟨ab0 (by simp[pcB,h1]),lh0⟩
def ftD(p:Int)(l:List Dy):Int:=if l.any (fun d=> !vB d)=true then 1 else if pcB p=false then 2 else 0
theorem y164(p:Int)(l:List Dy)(hb:∀d∈l,LB d.m/\d.m.length<=1000000)(hl:l.length<=1000000):Fn 218 [] [.int .i64 p,.sl .dy l] (.int .i64 (ftD p l)) []:=by
 obtain⟨A,hA⟩:∃A,ftD p l=A:=⟨_,rfl⟩;rw[hA];unfold ftD at hA;refine fY4 Tryz.func218 rfl ?_;refine⟨Nat,fun i=>i<=l.length/\(l.drop i).any (fun d=> !vB d)=l.any (fun d=> !vB d),fun i=> [(9,.int .i64 i)],fun _=> [],fun i=>l.length-i,0,⟨OC,OC⟩,?_,fun i hi=>?_⟩
 .exact KZ0
 refine gYe ?_;obtain⟨hi1,hi2⟩:=hi;refine brI (fun h1=>?_) (fun h1=>?_)
 .conv=>whnf
  have hi:i<l.length:=by simp only[Z4]at h1;omega
  refine⟨⟨O,O⟩,fun(d:Dy)hd=>?_⟩;have hd:l[i]? =some d:=by simpa using hd
  obtain⟨hd1,hd2⟩:=hb d (q1 hd);have h80:=y80 d hd1 O;rw[qh hd,List.any_cons]at hi2;conv=>whnf
  refine cbI [] _ h80 (fun h2=>?_) (fun h2=>?_)
  .rw[h2]at hi2;conv=>whnf
   refine⟨i+1,⟨O,by simpa using hi2⟩,by show l.length-(i+1)<l.length-i;omega,?_⟩;exact KZ0
  .rw[h2]at hi2;rw[Z6 (by rw[<-hi2];simp)]at hA;subst hA;conv=>whnf
   exact⟨lr rfl,lh0⟩
 have hi:¬i<l.length:=by simp only[Z5]at h1;omega
 rw[q2 O]at hi2;rw[Z7 (by rw[<-hi2];simp)]at hA;conv=>whnf
 refine cbI [] _ (y214 p) (fun h2=>?_) (fun h2=>?_)
 .rw[Z7 (by rw[h2];simp)]at hA;subst hA;conv=>whnf
  exact⟨lr rfl,lh0⟩
 .rw[Z6 h2]at hA;subst hA;conv=>whnf
  exact⟨lr rfl,lh0⟩
