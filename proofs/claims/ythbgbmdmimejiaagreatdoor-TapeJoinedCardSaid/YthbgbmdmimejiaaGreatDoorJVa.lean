/- Trees as plain data: valid ones, their depth, their size. -/
import Derived.Test.YthbgbmdmimejiaaGreatDoorJUa
import Derived.Shelf.Sort.Plain
import Derived.Shelf.Slices.In.SortNone
import Derived.Shelf.Slices.CompactS
set_option linter.all false
open And renaming intro->q4
open Bool renaming and_eq_true->q1
open List renaming getElem?_eq_some_iff->q0,length_append->q2,length_eq_zero_iff->q3,mem_of_getElem?->q5,mem_cons->q6,append_assoc->q7,length_cons->q8,cons_append->q9,length_nil->qA
namespace Go.Proofs.YthbgbmdmimejiaaGreatDoor
open Go Go.Sx
mutual
def depE:Ex->Nat
 |.mk _ _ _ _ l=>qek l+1
def qek:List Ex->Nat
 | []=>0
 |x::l=>max (depE x) (qek l)
end
mutual
def zd9:Ex->Nat
 |.mk _ _ _ _ l=>ze9 l+1
def ze9:List Ex->Nat
 | []=>0
 |x::l=>zd9 x+ze9 l
end
mutual
def VS:Ex->Prop
 |.mk k q s p l=>zin (.mk k q s p l)=true/\VSL l
def VSL:List Ex->Prop
 | []=>True
 |x::l=>VS x/\VSL l
end
mutual
theorem zos:∀(e:Ex)(d n:Nat),((zcl e d n).1=true<->VS e/\d+depE e<=21/\n+zd9 e<=200)/\((zcl e d n).1=true->(zcl e d n).2=n+zd9 e)
 |.mk k q s p l,d,n=>by
   simp only[zcl,VS,depE,zd9];by_cases h:d<=20/\n+1<=200/\zin (.mk k q s p l)=true
   .rw[Z4 h];have ih:=zor l (d+1) (n+1) O O;refine⟨⟨fun h1=>?_,fun h1=>?_⟩,fun h1=>?_⟩
    .have:=ih.1.1 h1;exact⟨⟨h.2.2,this.1⟩,O,O⟩
    .exact ih.1.2 ⟨h1.1.2,O,O⟩
    .have:=ih.2 h1;omega
   .rw[Z5 h];refine⟨⟨fun h1=>by simp at h1,fun h1=>absurd ⟨O,O,h1.1.1⟩ h⟩,fun h1=>by simp at h1⟩
theorem zor:∀(l:List Ex)(d n:Nat),d<=21->n<=200->((zeg l d n).1=true<->VSL l/\d+qek l<=21/\n+ze9 l<=200)/\((zeg l d n).1=true->(zeg l d n).2=n+ze9 l)
 | [],d,n,hd,hn=>by
   simp only[zeg,VSL,qek,ze9];exact⟨⟨fun _=>⟨trivial,O,O⟩,fun _=>trivial⟩,fun _=>rfl⟩
 |x::l,d,n,hd,hn=>by
  have ih:=zos x d n;simp only[zeg,VSL,qek,ze9];rcases hx:zcl x d n with ⟨b,m⟩
  rw[hx]at ih
  cases b with
  |true=>
   have h1:=ih.1.1 rfl;have h2:m=n+zd9 x:=ih.2 rfl;subst h2;have ih2:=zor l d (n+zd9 x) hd O;refine⟨⟨fun h=>?_,fun h=>?_⟩,fun h=>?_⟩
   .have:=ih2.1.1 h;exact⟨⟨h1.1,this.1⟩,O,O⟩
   .exact ih2.1.2 ⟨h.1.2,O,O⟩
   .have:=ih2.2 h;simp only at this⊢;omega
  |false=>
   refine⟨⟨fun h=>by simp at h,fun h=>?_⟩,fun h=>by simp at h⟩;have:=ih.1.2 ⟨h.1.1,O,O⟩;simp at this
end
theorem zfl(e:Ex):okT e=true<->VS e/\depE e<=20/\zd9 e<=200:=by
 have:=(zos e 1 0).1;unfold okT;rw[this];constructor
 .rintro⟨h1,h2,h3⟩;exact⟨h1,O,O⟩
 .rintro⟨h1,h2,h3⟩;exact⟨h1,O,O⟩
def zup(s:zp):Ex:=.mk 2 ⟨0,0⟩ s 0 []
def K1(k:Int):Prop:=k=7\/k=9\/k=10\/k=11\/k=12\/k=13
def K2(k:Int):Prop:=k=3\/k=4\/k=5\/k=6
inductive VT:Ex->Prop
 |num (r:Rt):rOk r=true->VT (zzc r)
 |var (s:zp):zfn s=true->VT (zup s)
 |un (k:Int) (a:Ex):K1 k->VT a->VT (opE k 0 [a])
 |pow (n:Int) (a:Ex):0<=n->n<=16->VT a->VT (opE 8 n [a])
 |bin (k:Int) (a b:Ex):K2 k->VT a->VT b->VT (opE k 0 [a,b])
theorem zub:∀ {l:List Ex},VSL l->∀x∈l,VS x
 | [],_,x,hx=>by simp at hx
 |y::l,h,x,hx=>by
  rcases q6.1 hx with rfl|hx
  .exact h.1
  .exact zub h.2 x hx
theorem len1{α:Type}{l:List α}(h:l.length=1):∃a,l= [a]:=by
 match l,h with
 | [a],_=>exact⟨a,rfl⟩
theorem len2{α:Type}{l:List α}(h:l.length=2):∃a b,l= [a,b]:=by
 match l,h with
 | [a,b],_=>exact⟨a,b,rfl⟩
theorem VS_VT:∀e,VS e->VT e:=by
 refine zwh fun k q s p l ih h=>?_
 simp only[VS]at h;obtain⟨hn,hl⟩:=h;have hall:∀x∈l,VT x:=fun x hx=>ih x hx (zub hl x hx)
 have hn:(if k=1 then numB (.mk k q s p l)else if k=2 then varB (.mk k q s p l)else if k=8 then powB (.mk k q s p l)else opB (.mk k q s p l))=true:=hn;by_cases hk1:k=1
 .rw[Z4 hk1]at hn;subst hk1;have hn:(rOk q&&(s== [])&&decide (p=0)&&decide (l.length=0))=true:=hn;simp only[q1,Z2,beq_iff_eq]at hn;obtain⟨⟨⟨h1,rfl⟩,rfl⟩,h2⟩:=hn;obtain rfl:l= []:=q3.1 h2;exact VT.num q h1
 .rw[Z5 hk1]at hn;by_cases hk2:k=2
  .rw[Z4 hk2]at hn;subst hk2;have hn:(decide (q=⟨0,0⟩)&&zfn s&&decide (p=0)&&decide (l.length=0))=true:=hn;simp only[q1,Z2,beq_iff_eq]at hn;obtain⟨⟨⟨rfl,h1⟩,rfl⟩,h2⟩:=hn;obtain rfl:l= []:=q3.1 h2;exact VT.var s h1
  .rw[Z5 hk2]at hn;by_cases hk8:k=8
   .rw[Z4 hk8]at hn;subst hk8;have hn:(decide (q=⟨0,0⟩)&&(s== [])&&decide (0<=p)&&decide (p<=16)&&decide (l.length=1))=true:=hn;simp only[q1,Z2,beq_iff_eq]at hn;obtain⟨⟨⟨⟨rfl,rfl⟩,h1⟩,h2⟩,h3⟩:=hn;obtain⟨a,rfl⟩:=len1 h3;exact VT.pow p a h1 h2 (hall a OC)
   .rw[Z5 hk8]at hn;have hn:(decide (q=⟨0,0⟩)&&(s== [])&&decide (p=0)&&decide ((l.length:Int)=opn k))=true:=hn;simp only[q1,Z2,beq_iff_eq]at hn;obtain⟨⟨⟨rfl,rfl⟩,rfl⟩,h1⟩:=hn;unfold opn at h1;split at h1
    .obtain⟨a,b,rfl⟩:=len2 (l:=l) O;exact VT.bin k a b ‹_› (hall a OC) (hall b OC)
    .split at h1
     .obtain⟨a,rfl⟩:=len1 (l:=l) O;exact VT.un k a (by unfold K1;omega) (hall a OC)
     .omega
theorem zni{e:Ex}(h:okT e=true):VT e:=VS_VT e ((zfl e).1 h).1
theorem zsg{s:zp}(h:zfn s=true):s.length<=20:=by
 simp only[zfn,q1,Z2]at h;exact h.1.2
theorem qe9{e:Ex}(h:VT e):Sm e:=by
 induction h with
 |num r hr=>simp[zzc,Sm,SmL]
 |var s hs=>have:=zsg hs;simp only[zup,Sm,SmL,qA];exact⟨O,O,trivial⟩
 |un k a hk _ ih=>simp[opE,Sm,SmL,ih]
 |pow n a h1 h2 _ ih=>simp[opE,Sm,SmL,ih]
 |bin k a b hk _ _ ih1 ih2=>simp[opE,Sm,SmL,ih1,ih2]
theorem K1_ne{k:Int}(h:K1 k):k≠1/\k≠2:=by unfold K1 at h;omega
theorem K2_ne{k:Int}(h:K2 k):k≠1/\k≠2:=by unfold K2 at h;omega
def zl7:Go.Shelf.Ren:=⟨fun|190=>116|125=>160|258=>159|128=>216|129=>217|302=>207|303=>208|304=>209|305=>210|306=>211|307=>212|308=>213|309=>214|310=>215|333=>249|329=>250|330=>251|334=>252|335=>253|336=>254|344=>273|n=>n,fun|31=>27|9=>9|3=>3|46=>153|0=>0|51=>137|53=>146|4=>4|183=>202|182=>201|131=>119|5=>5|218=>235|222=>98|228=>255|229=>231|n=>n,fun|n=>n⟩
theorem zsx:Go.Proofs.Lays.n190 Tryz.prog zl7 where
 mixed:=Z
 f125:=Tryz.func160.trans (congrArg some Z)
 f128:=Tryz.func216.trans (congrArg some Z)
 f129:=Tryz.func217.trans (congrArg some Z)
 f190:=Tryz.func116.trans (congrArg some Z)
 f258:=Tryz.func159.trans (congrArg some Z)
 f302:=Tryz.func207.trans (congrArg some Z)
 f303:=Tryz.func208.trans (congrArg some Z)
 f304:=Tryz.func209.trans (congrArg some Z)
 f305:=Tryz.func210.trans (congrArg some Z)
 f306:=Tryz.func211.trans (congrArg some Z)
 f307:=Tryz.func212.trans (congrArg some Z)
 f308:=Tryz.func213.trans (congrArg some Z)
 f309:=Tryz.func214.trans (congrArg some Z)
 f310:=Tryz.func215.trans (congrArg some Z)
 f329:=Tryz.func250.trans (congrArg some Z)
 f330:=Tryz.func251.trans (congrArg some Z)
 f333:=Tryz.func249.trans (congrArg some Z)
 f334:=Tryz.func252.trans (congrArg some Z)
 f335:=Tryz.func253.trans (congrArg some Z)
 f336:=Tryz.func254.trans (congrArg some Z)
 f344:=Tryz.func273.trans (congrArg some Z)
 t0:=Tryz.underlying0
 a0:=Tryz.isAgg0
 z0:=Tryz.sizeOf0
 v0:=Tryz.zeroValue0
 t3:=Tryz.underlying3
 a3:=Tryz.isAgg3
 z3:=Tryz.sizeOf3
 v3:=Tryz.zeroValue3
 t4:=Tryz.underlying4
 a4:=Tryz.isAgg4
 z4:=Tryz.sizeOf4
 v4:=Tryz.zeroValue4
 t5:=Tryz.underlying5
 a5:=Tryz.isAgg5
 z5:=Tryz.sizeOf5
 v5:=Tryz.zeroValue5
 t9:=Tryz.underlying9
 a9:=Tryz.isAgg9
 z9:=Tryz.sizeOf9
 v9:=Tryz.zeroValue9
 t31:=Tryz.underlying27
 a31:=Tryz.isAgg27
 z31:=Tryz.sizeOf27
 v31:=Tryz.zeroValue27
 t46:=Tryz.underlying153
 a46:=Tryz.isAgg153
 z46:=Tryz.sizeOf153
 v46:=Tryz.zeroValue153
 t51:=Tryz.underlying137
 a51:=Tryz.isAgg137
 z51:=Tryz.sizeOf137
 v51:=Tryz.zeroValue137
 t53:=Tryz.underlying146
 a53:=Tryz.isAgg146
 z53:=Tryz.sizeOf146
 v53:=Tryz.zeroValue146
 t131:=Tryz.underlying119
 a131:=Tryz.isAgg119
 z131:=Tryz.sizeOf119
 v131:=Tryz.zeroValue119
 t182:=Tryz.underlying201
 a182:=Tryz.isAgg201
 z182:=Tryz.sizeOf201
 v182:=Tryz.zeroValue201
 t183:=Tryz.underlying202
 a183:=Tryz.isAgg202
 z183:=Tryz.sizeOf202
 v183:=Tryz.zeroValue202
 t218:=Tryz.underlying235
 a218:=Tryz.isAgg235
 z218:=Tryz.sizeOf235
 v218:=Tryz.zeroValue235
 t222:=Tryz.underlying98
 a222:=Tryz.isAgg98
 z222:=Tryz.sizeOf98
 v222:=Tryz.zeroValue98
 t228:=Tryz.underlying255
 a228:=Tryz.isAgg255
 z228:=Tryz.sizeOf255
 v228:=Tryz.zeroValue255
 t229:=Tryz.underlying231
 a229:=Tryz.isAgg231
 z229:=Tryz.sizeOf231
 v229:=Tryz.zeroValue231
def zgy:Go.Shelf.Ren:=⟨fun|194=>117|n=>n,fun|31=>27|9=>9|3=>3|4=>4|0=>0|n=>n,fun|n=>n⟩
theorem zhe:Go.Proofs.Lays.n194 Tryz.prog zgy where
 mixed:=Z
 f194:=Tryz.func117.trans (congrArg some Z)
 t0:=Tryz.underlying0
 a0:=Tryz.isAgg0
 z0:=Tryz.sizeOf0
 v0:=Tryz.zeroValue0
 t3:=Tryz.underlying3
 a3:=Tryz.isAgg3
 z3:=Tryz.sizeOf3
 v3:=Tryz.zeroValue3
 t4:=Tryz.underlying4
 a4:=Tryz.isAgg4
 z4:=Tryz.sizeOf4
 v4:=Tryz.zeroValue4
 t9:=Tryz.underlying9
 a9:=Tryz.isAgg9
 z9:=Tryz.sizeOf9
 v9:=Tryz.zeroValue9
 t31:=Tryz.underlying27
 a31:=Tryz.isAgg27
 z31:=Tryz.sizeOf27
 v31:=Tryz.zeroValue27
theorem zkh(j i:Nat)(B:Blk):hget [(j,B)] i=if j=i then B else .dead :=by
 simp only[hget];by_cases h:j=i
 .subst h;simp
 .rw[Z5 h];have:Nat.beq j i=false:=by
   cases e:Nat.beq j i with
   |false=>rfl
   |true=>exact absurd (Nat.eq_of_beq_eq_true e) h
  rw[this]
section
variable {w w':World} {M:Nat->Prop} {pt:Nat->Option Nat} {ow:Nat->Option Value} {S:Nat->Prop} {j:Nat} {xs:List zp} {h:Value}
theorem zmi(hc:Core M pt ow S [(j,.buf 9 .str xs)] w)(i:Nat):pt i=none:=by
 cases e:pt i with
 |none=>rfl
 |some b=>
  have:=hc.dpt i b e;rw[zkh]at this;split at this<;>cases this
theorem qa0(hc:Core M pt ow S [(j,.buf 9 .str xs)] w){i:Nat}(hi:i≠j):ow i=none:=by
 cases e:ow i with
 |none=>rfl
 |some b=>
  have:=hc.dow i b e;rw[zkh,Z5 (fun h=>hi h.symm)]at this;cases this
theorem zgc(hc:Core M pt ow S [(j,.buf 9 .str xs)] w)(hj:ow j=some h):bl pt ow j=vbl h:=by
 unfold bl;rw[zmi hc,hj];cases h<;>first|rfl|(rename_i ao _ _;cases ao<;>rfl)
theorem zo1(hc:Core M pt ow S [(j,.buf 9 .str xs)] w)(hj:ow j=some h)(hos:w'.os=w.os)(htape:w'.tape=w.tape)(hout:w'.output=w.output)(hsz:w.heap.size<=w'.heap.size)
 (hsame:∀b,b<w.heap.size->vbl h≠some b->w'.heap[b]? =w.heap[b]?) {ys:List zp} (hb:zao w' (zj w' M) 9 .str ys h):
 Ans w M pt ow S (.tup []) [(j,.buf 9 .str ys)] (.returned (.tuple #[])) w':=by
 refine⟨.tuple #[],M,pt,ow,S,rfl,?_,?_,⟨#[],rfl,trivial⟩,?_⟩
 .exact {
   fresh:=fun b hb=>Nat.lt_of_lt_of_le (hc.fresh b hb) hsz
   mt:=hc.mt,inj:=hc.inj,gm:=hc.gm,gd:=hc.gd
   dpt:=fun i b e=>by rw[zmi hc]at e;cases e
   dow:=fun i x e=>by
    by_cases hi:i=j
    .subst hi;rw[zkh,Z4 rfl];rfl
    .rw[qa0 hc hi]at e;cases e
   blk:=fun i=>by
    rw[zkh];split
    .rename_i e;subst e;exact⟨h,hj,hb⟩
    .trivial}
 .intro i l b cs T hl hb';rw[zmi hc]at hb';cases hb'
 .exact {
   os:=hos,tape:=htape,output:=hout,size:=hsz
   same:=fun b hb hn _=>hsame b hb fun e=>hn j (by rw[zgc hc hj];exact e)
   mm:=fun _ h=>h,mn:=fun _ h=>.inl h,sn:=fun _ h=>.inl h,lept:=fun _ _ h=>.inl h,leow:=fun _ _ h=>.inl h}
theorem zo0(hc:Core M pt ow S [(j,.buf 9 .str xs)] w)(hj:ow j=some h){h':Value}(hv:vbl h'=vbl h\/vbl h'=none)(hsl:∃a n c,h'=.slice a n c)(hos:w'.os=w.os)(htape:w'.tape=w.tape)(hout:w'.output=w.output)
 (hsz:w.heap.size<=w'.heap.size) (hsame:∀b,b<w.heap.size->vbl h≠some b->w'.heap[b]? =w.heap[b]?) {ys:List zp} (hb:zao w' (zj w' M) 9 .str ys h') (hj2:j≠2000000):
 Ans w M pt ow S (.own 2000000) [(j,.dead),(2000000,.buf 9 .str ys)] (.returned h') w':=by
 let ow':Nat->Option Value:=fun i=>if i=2000000 then some h' else none
 have hbl:∀i b,bl (fun _=>none) ow' i=some b->i=2000000/\vbl h=some b:=fun i b e=>by
  by_cases hi:i=2000000
  .refine⟨hi,?_⟩;subst hi;have e2:vbl h'=some b:=by
    simp only[bl,ow',if_true]at e;obtain⟨a,n,c,rfl⟩:=hsl;cases a<;>exact e
   rcases hv with h1|h1
   .rw[<-h1];exact e2
   .rw[h1]at e2;cases e2
  .simp only[bl,ow',Z5 hi]at e;cases e
 have hget2:∀i,hget [(j,.dead),(2000000,.buf 9 .str ys)] i=if 2000000=i then .buf 9 .str ys else .dead :=fun i=>by
  rw[<-zkh];show(match Nat.beq j i with|true=>Blk.dead|false=>hget [(2000000,Blk.buf 9 .str ys)] i)=_
  cases e:Nat.beq j i with
  |false=>rfl
  |true=>
   have:=Nat.eq_of_beq_eq_true e;subst this;rw[zkh,Z5 fun h=>hj2 h.symm]
 refine⟨h',M,fun _=>none,ow',S,rfl,?_,?_,?_,?_⟩
 .exact {
   fresh:=fun b hb=>Nat.lt_of_lt_of_le (hc.fresh b hb) hsz
   mt:=fun i b e=>hc.mt j b (by rw[zgc hc hj];exact(hbl i b e).2)
   inj:=fun i k b e1 e2=>by rw[(hbl i b e1).1,(hbl k b e2).1]
   gm:=hc.gm
   gd:=fun i b e=>hc.gd j b (by rw[zgc hc hj];exact(hbl i b e).2)
   dpt:=fun i b e=>by cases e
   dow:=fun i x e=>by
    by_cases hi:i=2000000
    .subst hi;rw[hget2,Z4 rfl];rfl
    .simp only[ow',Z5 hi]at e;cases e
   blk:=fun i=>by
    rw[hget2];split
    .rename_i e;subst e;exact⟨h',by simp[ow'],hb⟩
    .trivial}
 .intro i l b cs T hl hb';cases hb'
 .refine⟨hsl,fun x hx=>?_⟩;have:some h'=some x:=by simpa[ow']using hx
  exact Option.some.inj this
 .exact {
   os:=hos,tape:=htape,output:=hout,size:=hsz
   same:=fun b hb hn _=>hsame b hb fun e=>hn j (by rw[zgc hc hj];exact e)
   mm:=fun _ h=>h,mn:=fun _ h=>.inl h,sn:=fun _ h=>.inl h,lept:=fun _ _ h=>by cases h
   leow:=fun i x hx=>by
    by_cases hi:i=2000000
    .have hx2:h'=x:=by
      have:ow' i=some h':=by simp[ow',hi]
      rw[this]at hx;exact Option.some.inj hx
     subst hx2;refine .inr ⟨fun b hb=>.inr ⟨j,?_⟩,O⟩;rw[zgc hc hj];rcases hv with h1|h1
     .rw[<-h1];exact hb
     .rw[h1]at hb;cases hb
    .simp only[ow',Z5 hi]at hx;cases hx}
end
theorem zrq{w:World}{b cap:Nat}{cs:Array Value}(hb:w.heap[b]? =some (.cells cs 9 (0,0)))(hcs:cs.size=cap)(d:List zp)(hd:d.length<=cap)(n:Nat)(os:Array Obj){w':World}
 (hw:w'=Go.Sort.grow (Go.Sort.putRow Go.Proofs.encStr (Go.Sort.ahead w n) b 0 d.toArray) os):
 w'.os=w.os/\w'.tape=w.tape/\w'.output=w.output/\w.heap.size<=w'.heap.size/\(∀c,c<w.heap.size->c≠b->w'.heap[c]? =w.heap[c]?)/\
  ∃cs':Array Value,w'.heap[b]? =some (.cells cs' 9 (0,0))/\cs'.size=cap/\∀(i:Nat)x,d[i]? =some x->cs'[i]? =some (.string ⟨x.toArray⟩):=by
 subst hw;have hlt:b<w.heap.size:=zd hb;refine⟨rfl,rfl,rfl,?_,fun c hc hne=>?_,Go.Sort.putCells Go.Proofs.encStr 0 d.toArray cs,?_,?_,fun i x hx=>?_⟩
 .simp[Go.Sort.grow,Go.Sort.putRow,Go.Sort.mapBlock,Go.Sort.ahead]
 .simp only[Go.Sort.grow,Go.Sort.putRow,Go.Sort.mapBlock,Go.Sort.ahead];rw[Array.getElem?_append_left (by simpa using hc),Array.getElem?_modify,Z5 (fun h=>hne h.symm)]
 .simp only[Go.Sort.grow,Go.Sort.putRow,Go.Sort.mapBlock,Go.Sort.ahead];rw[Array.getElem?_append_left (by simpa using hlt),Array.getElem?_modify,Z4 rfl,hb];rfl
 .simp[Go.Sort.putCells,hcs]
 .have hi:i<d.length:=(q0.1 hx).1;have hxe:d[i]=x:=(q0.1 hx).2;have hic:i<cs.size:=O;simp only[Go.Sort.putCells];rw[Array.getElem?_mapIdx,Array.getElem?_eq_getElem hic];simp only[Option.map_some];rw[Z4 OE];simp[hi,hxe]
theorem zov{w':World}{V:jp}{b cap:Nat}{cs':Array Value}{d ys:List zp}(h1:w'.heap[b]? =some (.cells cs' 9 (0,0)))(h2:cs'.size=cap)(h3:∀(i:Nat)x,d[i]? =some x->cs'[i]? =some (.string ⟨x.toArray⟩))
 (hy:∀(i:Nat)x,ys[i]? =some x->d[i]? =some x) (hl:ys.length<=cap) (hm:cap<=maxLen):zao w' V 9 .str ys (.slice (some ⟨b,0,none⟩) ys.length cap):=by
 refine .inr ⟨b,cap,cs',rfl,h1,hl,hm,by rw[h2];simp[Elt.size],fun i x hx k u hu=>?_⟩
 match k,hu with
 |0,hu=>
  obtain rfl: .str x=u:=by simpa[Elt.cells]using hu
  refine⟨.string ⟨x.toArray⟩,?_,.str x⟩;have:=h3 i x (hy i x hx);simpa[Elt.size]using this
 |k+1,hu=>simp[Elt.cells]at hu
theorem zn6{w:World}{V:jp}{b:Nat}{cs:Array Value}{xs:List zp}(hb:w.heap[b]? =some (.cells cs 9 (0,0)))
 (hx:∀(i:Nat)(x:zp),xs[i]? =some x->∀(j:Nat)(u:AV),(Elt.str.cells x)[j]? =some u->∃v,cs[i*Elt.str.size+j]? =some v/\Leaf V u v):Go.Sort.Holds Go.Proofs.encStr w b 0 xs.toArray:=by
 intro i hi;have hi:i<xs.length:=by simpa using hi
 have hg:xs[i]? =some xs[i]:=List.getElem?_eq_getElem hi;obtain⟨v,h1,h2⟩:=hx i xs[i] hg 0 (.str xs[i]) rfl;cases h2
 have h1:cs[i]? =some (.string ⟨xs[i].toArray⟩):=by simpa[Elt.size]using h1
 constructor
 .unfold World.cell?;simp only[hb,Nat.zero_add];simp[h1,hi]
 .unfold World.frozen?;simp only[hb];simp
theorem zqm(d:Array zp):∀m,(Go.Lib.compactUpTo d m).length <=m
 |0=>by simp[Go.Lib.compactUpTo]
 |m+1=>by
  rw[Go.Lib.compactUpTo_succ,q2];have:=zqm d m;split<;>simp<;>omega
theorem zhw(xs:List zp):(Go.Lib.compact xs).length <=xs.length:=zqm _ _
theorem znu(d:Array zp)(x:zp):∀m,x∈Go.Lib.compactUpTo d m<->∃j,j<m/\d[j]! =x
 |0=>by simp[Go.Lib.compactUpTo]
 |m+1=>by
  rw[Go.Lib.compactUpTo_succ,List.mem_append,znu d x m];constructor
  .rintro(⟨j,h1,h2⟩|h)
   .exact⟨j,O,h2⟩
   .split at h
    .simp only[List.mem_singleton]at h;exact⟨m,O,h.symm⟩
    .simp at h
  .rintro⟨j,h1,h2⟩;rcases Nat.lt_or_ge j m with h3|h3
   .exact .inl ⟨j,h3,h2⟩
   .obtain rfl:j=m:=by omega
    by_cases hk:Go.Lib.keeps d j=true
    .exact .inr (by rw[Z4 hk];simp[h2])
    .refine .inl ⟨j-1,?_⟩;have hj:0<j:=by
      rcases Nat.eq_zero_or_pos j with h0|h0
      .subst h0;exact absurd (by simp[Go.Lib.keeps]) hk
      .exact h0
     refine⟨O,?_⟩;by_cases he:d[j]! =d[j-1]!
     .rw[<-he];exact h2
     .exact absurd (Go.Lib.keeps_pos he) hk
theorem zlz(xs:List zp)(x:zp):x∈Go.Lib.compact xs<->x∈xs:=by
 unfold Go.Lib.compact;rw[znu];constructor
 .rintro⟨j,h1,h2⟩;rw[<-h2];simp[h1]
 .intro h;obtain⟨j,h1,h2⟩:=List.getElem_of_mem h;exact⟨j,h1,by simp[h1,h2]⟩
def zpb(xs:List zp):List zp:=xs.mergeSort fun x y=>decide (x<=y)
theorem qee:Ent Tryz.prog 116:=⟨Tryz.f116,Tryz.func116,Z,Z⟩
theorem qed:Ent Tryz.prog 117:=⟨Tryz.f117,Tryz.func117,Z,Z⟩
theorem f136(j:Nat)(xs:List zp)(hx:xs.length<4611686018427387904):zcm Tryz.prog 116 [(j,.buf 9 .str xs)] [.own j] (.tup []) [(j,.buf 9 .str (zpb xs))]:=by
 refine⟨qee,fun w M pt ow S vs hc _ ha=>?_⟩
 match vs,ha with
 | [v],⟨⟨_,hv⟩,_⟩=>
   have hbj:=hc.blk j;rw[zkh,Z4 rfl]at hbj;obtain⟨h,hj,hb⟩:=hbj;obtain rfl:v=h:=hv h hj;have none:xs= []->∀p cap,v=.slice p 0 cap->Calls Tryz.prog 116 #[v] w (Ans w M pt ow S (.tup []) [(j,.buf 9 .str (zpb xs))]):=fun hx0 p cap hp=>by
    have e:zpb xs=xs:=by subst hx0;simp[zpb]
    rw[e,hp];refine(Go.Proofs.Any.slices_Sort_string_none zsx p cap w).mono ?_;rintro e w' ⟨rfl,rfl⟩;exact zo1 hc hj rfl rfl rfl (Nat.le_refl _) (fun _ _ _=>rfl) hb
   rcases hb with ⟨h1,h2⟩|⟨b,cap,cs,h1,h2,h3,h4,h5,h6⟩
   .exact none h2 _ _ h1
   .by_cases hx0:xs= []
    .exact none hx0 _ _ (by rw[h1,hx0];rfl)
    .have hlt:=zd h2;have hcs:cs.size=cap:=by rw[h5];simp[Elt.size]
     subst h1;refine(Go.Proofs.Any.slices_Sort_string zsx b 0 cap xs w (zn6 h2 h6) hlt hx).mono ?_;rintro e w' ⟨rfl,n,os,hw⟩;have hl:(zpb xs).length =xs.length:=List.length_mergeSort _;obtain⟨g1,g2,g3,g4,g5,cs',g6,g7,g8⟩:=zrq h2 hcs (zpb xs) O n os hw;have hbuf:=zov (V:=zj w' M) (ys:=zpb xs) g6 g7 g8 (fun _ _ h=>h) O h4;rw[hl]at hbuf;exact zo1 hc hj g1 g2 g3 g4 (fun c hc' hne=>g5 c hc' fun e=>hne (by rw[e];rfl)) hbuf
theorem f137(j:Nat)(hj2:j<=999999)(xs:List zp):zcm Tryz.prog 117 [(j,.buf 9 .str xs)] [.own j] (.own 2000000) [(j,.dead),(2000000,.buf 9 .str (Go.Lib.compact xs))]:=by
 refine⟨qed,fun w M pt ow S vs hc _ ha=>?_⟩
 match vs,ha with
 | [v],⟨⟨_,hv⟩,_⟩=>
   have hbj:=hc.blk j;rw[zkh,Z4 rfl]at hbj;obtain⟨h,hj,hb⟩:=hbj;obtain rfl:v=h:=hv h hj;have none:xs= []->∀p cap,v=.slice p 0 cap->Calls Tryz.prog 117 #[v] w (Ans w M pt ow S (.own 2000000) [(j,.dead),(2000000,.buf 9 .str (Go.Lib.compact xs))]):=fun hx0 p cap hp=>by
    have e:Go.Lib.compact xs=xs:=by subst hx0;rfl
    rw[e,hp];refine(Go.Proofs.Any.slices_Compact_string_empty zhe p cap w).mono ?_;rintro e w' ⟨rfl,rfl⟩;rw[<-hp];exact zo0 hc hj (.inl rfl) ⟨_,_,_,hp⟩ rfl rfl rfl (Nat.le_refl _) (fun _ _ _=>rfl) hb O
   rcases hb with ⟨h1,h2⟩|⟨b,cap,cs,h1,h2,h3,h4,h5,h6⟩
   .exact none h2 _ _ h1
   .by_cases hx0:xs= []
    .exact none hx0 _ _ (by rw[h1,hx0];rfl)
    .have hlt:=zd h2;have hcs:cs.size=cap:=by rw[h5];simp[Elt.size]
     have hm:maxLen=9223372036854775807:=OA;subst h1;refine(Go.Proofs.Any.slices_Compact_string zhe b 0 cap xs w (zn6 h2 h6) O h3).mono ?_;rintro e w' ⟨rfl,n,hw⟩;have hl:(Go.Lib.compact xs).length <=xs.length:=zhw xs;have hw2:w'=Go.Sort.grow (Go.Sort.putRow Go.Proofs.encStr (Go.Sort.ahead w n) b 0 (Go.Lib.compact xs++List.replicate (xs.length-(Go.Lib.compact xs).length) []).toArray) #[]:=by rw[hw];simp
     obtain⟨g1,g2,g3,g4,g5,cs',g6,g7,g8⟩:=zrq h2 hcs _ OE n #[] hw2;have hbuf:=zov (V:=zj w' M) (ys:=Go.Lib.compact xs) g6 g7 g8 (fun i x h=>by rw[List.getElem?_append_left (q0.1 h).1];exact h) O h4;exact zo0 hc hj (h':=.slice (some ⟨b,0,Option.none⟩) (Go.Lib.compact xs).length cap) (.inl rfl) ⟨_,_,_,rfl⟩ g1 g2 g3 g4 (fun c hc' hne=>g5 c hc' fun e=>hne (by rw[e];rfl)) hbuf O
set_option maxRecDepth 100000
set_option maxHeartbeats 8000000
mutual
def zjt:Ex->List Ex
 |.mk k q s p l=>.mk k q s p l::zja l
def zja:List Ex->List Ex
 | []=> []
 |x::l=>zjt x++zja l
end
mutual
theorem znc:∀e:Ex,(zjt e).length =zd9 e
 |.mk k q s p l=>by simp only[zjt,zd9,q8,zij l]
theorem zij:∀l:List Ex,(zja l).length =ze9 l
 | []=>rfl
 |x::l=>by simp only[zja,ze9,q2,znc x,zij l]
end
def qfc(l:Nat)(J:List Ex->GJ):Prop:=∀(n:List Ex)(y:Ex),n.length<1000->zuk Tryz.prog l [(qc,.gst (J n))] [.agg (exC y)] (.bool true) [(qc,.gst (J (n++ [y])))]
abbrev H1(l:Nat)(J:List Ex->GJ)(n:List Ex):Hp:= [(1000003,.cells [.cb l]),(qc,.gst (J n))]
abbrev H2(l:Nat)(J:List Ex->GJ)(n:List Ex):Hp:= [(1000004,.cells [.fn 126 [.ptr 1000003 0]]),(1000003,.cells [.cb l]),(qc,.gst (J n))]
theorem qds{h h':Hp}(l:Nat)(J:List Ex->GJ)(n:List Ex):leH h h' (H1 l J n) (H1 l J n):=lh1 (bc0 (lc (lr rfl) ln0)) (lh1 (bg0 rfl) lh0)
theorem zz7{h h':Hp}(l:Nat)(J:List Ex->GJ)(n:List Ex):leH h h' (H2 l J n) (H2 l J n):=lh1 (bc0 (lc (lr rfl) ln0)) (lh1 (bc0 (lc (lr rfl) ln0)) (lh1 (bg0 rfl) lh0))
abbrev qba(l:Nat)(J:List Ex->GJ)(e:Ex):Prop:=∀n:List Ex,n.length+zd9 e<=1000->Fn 91 [(qc,.gst (J n))] [.agg (exC e),.cb l] (.bool true) [(qc,.gst (J (n++zjt e)))]
theorem f153(l:Nat)(J:List Ex->GJ)(x:Ex)(hx:qba l J x)(n:List Ex)(hn:n.length+zd9 x<=1000):Fn 126 (H1 l J n) [.agg (exC x),.ptr 1000003 0] (.bool true) (H1 l J (n++zjt x)):=by
 refine fnT hT hmx Tryz.func126 rfl rfl (ex:= []) ?_;conv=>whnf
 refine⟨[.gst (J (n++zjt x))],.bool true,hx n hn,?_⟩;conv=>whnf
 exact⟨lr rfl,qds l J _⟩
theorem f163(l:Nat)(J:List Ex->GJ)(x:Ex)(hx:qba l J x)(n:List Ex)(hn:n.length+zd9 x<=1000):Fn 161 (H2 l J n) [.agg (exC x),.ptr 1000004 0] (.bool false) (H2 l J (n++zjt x)):=by
 refine fnT hT hmx Tryz.func161 rfl rfl (ex:= []) ?_;conv=>whnf
 refine⟨[.cells [.cb l],.gst (J (n++zjt x))],.bool true,f153 l J x hx n hn,?_⟩;conv=>whnf
 exact⟨lr rfl,zz7 l J _⟩
theorem zr2{l:List Ex}{i:Nat}{x:Ex}(hx:l[i]? =some x):zja (l.take (i+1))=zja (l.take i)++zjt x:=by
 rw[List.take_add_one,hx];simp only[Option.toList_some];generalize l.take i=m
 induction m with
 |nil=>simp[zja]
 |cons y m ih=>simp only[q9,zja,ih,q7]
theorem zre:∀ {l:List Ex}{i:Nat}{x:Ex},l[i]? =some x->ze9 (l.take i)+zd9 x<=ze9 l
 | [],_,_,h=>by simp at h
 |y::l,0,x,h=>by
  obtain rfl:y=x:=by simpa using h
  simp only[List.take_zero,ze9];omega
 |y::l,i+1,x,h=>by
  have:=zre (l:=l) (i:=i) (x:=x) (by simpa using h);simp only[List.take_succ_cons,ze9];omega
theorem f114w(l:Nat)(J:List Ex->GJ)(xs:List Ex)(hl:∀x∈xs,qba l J x)(hlen:xs.length<9223372036854775808)(n:List Ex)(hn:n.length+ze9 xs<=1000):
 Fn 87 (H2 l J n) [.sl .ex xs,.fn 161 [.ptr 1000004 0]] (.int .i64 (-1)) (H2 l J (n++zja xs)):=by
 refine fnT hT hmx Tryz.func87 rfl rfl (ex:= []) ?_;conv=>whnf
 refine⟨Nat,fun i=>i<=xs.length,fun i=> [(8,.int .i64 i)],fun i=> [(qc,.gst (J (n++zja (xs.take i))))],fun i=>xs.length-i,0,OC,?_,fun i hi=>?_⟩
 ·((conv=>whnf);refine q4 ?_ ?_;repeat' first|refine lc ?_ ?_|refine lh1 ?_ ?_|refine bc0 ?_|exact KXY|refine lg0 ?_|refine lt0 ?_)
  exact bg0 (by simp[zja])
 .refine gYe ?_;refine brI (fun h1=>?_) (fun h1=>?_)
  .conv=>whnf
   have hi:i<xs.length:=by simp only[Z2]at h1;omega
   refine⟨⟨O,O⟩,fun e he=>?_⟩;have he:xs[(i:Int).toNat]? =some e:=he;have he:xs[i]? =some e:=by simpa using he
   conv=>whnf
   refine⟨[.cells [.fn 126 [.ptr 1000003 0]],.cells [.cb l],.gst (J (n++zja (xs.take i)++zjt e))],.bool false,f163 l J e (hl e (q5 he)) _ (by rw[q2,zij];have:=zre he;omega),?_⟩;conv=>whnf
   refine⟨i+1,by show i+1<=xs.length;omega,by show xs.length-(i+1)<xs.length-i;omega,?_⟩
   ((conv=>whnf);refine q4 ?_ ?_;repeat' first|refine lc ?_ ?_|refine lh1 ?_ ?_|refine bc0 ?_|exact KXY|refine lg0 ?_|refine lt0 ?_)
   .exact ai0 (by rw[wI O];omega)
   .exact bg0 (by rw[zr2 he,q7])
  .conv=>whnf
   have hi:¬i<xs.length:=by simp only[Z3]at h1;omega
   rw[List.take_of_length_le O];exact⟨lr rfl,zz7 l J _⟩
theorem f60w(l:Nat)(J:List Ex->GJ)(xs:List Ex)(hl:∀x∈xs,qba l J x)(hlen:xs.length<9223372036854775808)(n:List Ex)(hn:n.length+ze9 xs<=1000):
 Fn 56 (H2 l J n) [.sl .ex xs,.fn 161 [.ptr 1000004 0]] (.bool false) (H2 l J (n++zja xs)):=by
 refine fnT hT hmx Tryz.func56 rfl rfl (ex:= []) ?_;conv=>whnf
 refine⟨[.cells [.fn 126 [.ptr 1000003 0]],.cells [.cb l],.gst (J (n++zja xs))],_,f114w l J xs hl hlen n hn,?_⟩;conv=>whnf
 exact⟨lr rfl,zz7 l J _⟩
theorem f152(l:Nat)(J:List Ex->GJ)(xs:List Ex)(hl:∀x∈xs,qba l J x)(hlen:xs.length<9223372036854775808)(n:List Ex)(hn:n.length+ze9 xs<=1000):
 Fn 125 (H1 l J n) [.sl .ex xs,.fn 126 [.ptr 1000003 0]] (.bool true) (H1 l J (n++zja xs)):=by
 refine fnT hT hmx Tryz.func125 rfl rfl (ex:= []) ?_;conv=>whnf
 refine⟨[.cells [.fn 126 [.ptr 1000003 0]],.cells [.cb l],.gst (J (n++zja xs))],.bool false,(f60w l J xs hl hlen n hn).sw [(3,1000004)] rfl,?_⟩;conv=>whnf
 exact⟨lr rfl,qds l J _⟩
theorem f127(l:Nat)(J:List Ex->GJ)(hJ:qfc l J):∀e:Ex,Sm e->qba l J e:=by
 refine zwh fun k q s p xs ih hs n hn=>?_
 simp only[Sm]at hs;simp only[zd9]at hn;have hl:∀x∈xs,qba l J x:=fun x hx=>ih x hx (zug hs.2.2 x hx)
 refine fnT hT hmx Tryz.func91 rfl rfl (ex:= []) ?_;conv=>whnf
 refine⟨[.gst (J (n++ [Ex.mk k q s p xs]))],.bool true,hJ n (.mk k q s p xs) O,?_⟩;conv=>whnf
 refine⟨[.cells [.cb l],.gst (J (n++ [Ex.mk k q s p xs]++zja xs))],.bool true,(f152 l J xs hl hs.2.1 (n++ [Ex.mk k q s p xs]) OE).sw [(3,1000003)] rfl,?_⟩;conv=>whnf
 refine⟨lr rfl,lh1 (bg0 ?_) lh0⟩;rw[show n++ [Ex.mk k q s p xs]++zja xs=n++zjt (.mk k q s p xs) by simp[zjt]]
theorem f154(l:List Ex)(hl:l.length<=1000):Fn 127 [] [.sl .ex l] (.own 2000000) [(2000000,.buf 26 .ex l)]:=by
 refine fnT hT hmx Tryz.func127 rfl rfl (ex:= [7]) ?_;conv=>whnf
 refine⟨fun h=>?_,fun _=>?_⟩
 .conv=>whnf
  subst h;exact⟨trivial,lh1 (zsw rfl rfl) lh0⟩
 .conv=>whnf
  refine⟨OE,?_⟩;conv=>whnf
  exact⟨trivial,lh1 (bb0 OC) lh0⟩
abbrev ClOK(e:Ex):Prop:=Fn 92 [] [.agg (exC e)] (.agg (exC e)) []
theorem zvc{α:Type}{l:List α}{i:Nat}{x:α}(h:l[i]? =some x):l.set i x=l:=by
 obtain⟨hi,hx⟩:=q0.1 h;rw[<-hx];exact List.set_getElem_self hi
theorem zbb(k:Int)(q:Rt)(s:zp)(n:Int)(l:List Ex)(hl:∀x∈l,ClOK x)(hlen:l.length<=1000):ClOK (.mk k q s n l):=by
 refine fnT hT hmx Tryz.func92 rfl rfl (ex:= []) ?_;conv=>whnf
 refine⟨[],[.buf 26 .ex l],.own 2000000,f154 l hlen,?_⟩;conv=>whnf
 refine⟨Nat,fun i=>i<=l.length,fun i=> [(10,.int .i64 i)],fun _=> [(7,.buf 26 .ex l)],fun i=>l.length-i,0,OC,?_,fun i hi=>?_⟩
 ·((conv=>whnf);refine q4 ?_ ?_;repeat' first|refine lc ?_ ?_|refine lh1 ?_ ?_|refine bc0 ?_|exact KXY|refine lg0 ?_|refine lt0 ?_)
  all_goals first|exact bb0 rfl|exact trivial|fail
 .refine gYe ?_;refine brI (fun h1=>?_) (fun h1=>?_)
  .conv=>whnf
   have h1:i<l.length:=by simp only[Z2]at h1;omega
   refine⟨⟨O,O⟩,?_⟩;conv=>whnf
   refine⟨by simpa using h1,fun x hx=>?_⟩;have hx:l[(i:Int).toNat]? =some x:=hx;have hx:l[i]? =some x:=by simpa using hx
   conv=>whnf
   refine gYn (hl x (q5 hx)) ?_;refine⟨⟨O,O⟩,?_⟩;conv=>whnf
   rw[Ex.eta2];refine⟨by simpa using h1,?_⟩;conv=>whnf
   refine⟨i+1,by show i+1<=l.length;omega,by show l.length-(i+1)<l.length-i;omega,?_⟩
   ((conv=>whnf);refine q4 ?_ ?_;repeat' first|refine lc ?_ ?_|refine lh1 ?_ ?_|refine bc0 ?_|exact KXY|refine lg0 ?_|refine lt0 ?_)
   .exact ai0 (by rw[wI O];omega)
   .exact bb0 (zvc (by simpa using hx))
  .conv=>whnf
   exact⟨qdt rfl,lh0⟩
theorem f128{e:Ex}(h:VT e):ClOK e:=by
 induction h with
 |num r hr=>exact zbb 1 r [] 0 [] OC OC
 |var s hs=>exact zbb 2 ⟨0,0⟩ s 0 [] OC OC
 |un k a hk ha ih=>exact zbb k ⟨0,0⟩ [] 0 [a] (by simpa using ih) OC
 |pow n a h1 h2 ha ih=>exact zbb 8 ⟨0,0⟩ [] n [a] (by simpa using ih) OC
 |bin k a b hk ha hb ih1 ih2=>exact zbb k ⟨0,0⟩ [] 0 [a,b] (by simpa using⟨ih1,ih2⟩) OC
def szN(e:Ex):Nat:=if okT e then zd9 e else 0
def zje(e:Ex):List Ex:=if okT e then zjt e else []
theorem zmq(e:Ex):(zje e).length =szN e:=by
 unfold zje szN;split
 .exact znc e
 .rfl
theorem f126(l:Nat)(J:List Ex->GJ)(hJ:qfc l J)(e:Ex)(he:Sm e):Fn 90 [(qc,.gst (J [])),(1000001,.cells (exC e))] [.cb l,.ptr 1000001 0] (.tup []) [(qc,.gst (J (zje e))),(1000001,.cells (exC e))]:=by
 refine fnT hT hmx Tryz.func90 rfl rfl (ex:= []) ?_;conv=>whnf
 refine cbI [] (okT e) (f17 e he) (fun h1=>?_) (fun h1=>?_)
 .conv=>whnf
  refine gYn (f128 (zni h1)) ?_;refine⟨[.gst (J ([]++zjt e))],.bool true,f127 l J hJ e he [] (by have:=((zfl e).1 h1).2.2;simp;omega),?_⟩;conv=>whnf
  refine⟨lr rfl,lh1 (bg0 ?_) (lh1 (bc0 ?_) lh0)⟩
  .rw[show zje e= []++zjt e by simp[zje,h1]]
  .exact lc (lr rfl) (lc (lr rfl) (lc (lr rfl) (lc (lr rfl) (lc (lr rfl) (lc (lr rfl) ln0)))))
 .conv=>whnf
  refine⟨lr rfl,lh1 (bg0 ?_) (lh1 (bc0 ?_) lh0)⟩
  .rw[show zje e= [] by simp[zje,h1]]
  .exact lc (lr rfl) (lc (lr rfl) (lc (lr rfl) (lc (lr rfl) (lc (lr rfl) (lc (lr rfl) ln0)))))
theorem f71(e:Ex):Fn 59 [] [.agg (exC e)] (.fn 90 [.ptr 2000000 0]) [(2000000,.cells (exC e))]:=by
 refine fnT hT hmx Tryz.func59 rfl rfl (ex:= [1]) ?_;conv=>whnf
 (refine q4 ?_ ?_;repeat' first|refine lc ?_ ?_|exact la0|exact lr rfl|exact ln0|refine lh1 ?_ ?_|exact lh0|exact bf0|exact bd0|refine bc0 ?_|exact bm0 rfl|exact bg0 rfl|exact li0 rfl|refine lg0 ?_|refine lt0 ?_|fail)
theorem zxa(e:Ex):szN e<=200:=by
 unfold szN;split
 .rename_i h;exact((zfl e).1 h).2.2
 .omega
def zg9:List Ex->List zp
 | []=> []
 |y::l=>if y.k=2 then y.s::zg9 l else zg9 l
theorem znp(l m:List Ex):zg9 (l++m)=zg9 l++zg9 m:=by
 induction l with
 |nil=>rfl
 |cons y l ih=>simp only[q9,zg9,ih];split<;>rfl
theorem zio(l:List Ex):(zg9 l).length <=l.length:=by
 induction l with
 |nil=>exact Nat.le_refl _
 |cons y l ih=>simp only[zg9];split<;>simp<;>omega
def nmE(e:Ex):List zp:=Go.Lib.compact (zpb (zg9 (zje e)))
noncomputable def zx5:Code:=Tryz.f72.body.getD .skip
theorem f91(e:Ex)(he:Sm e):Fn 72 [] [.agg (exC e)] (.sl .str (nmE e)) []:=by
 refine vu (code:=zx5) hT hmx Tryz.func72 rfl rfl (ex:= []) ?_;conv=>whnf
 refine jf hT hmx 2 (fun _:Unit=>⟨[.any,.ptr 1 0,.any,.ptr 3 0]++zbh 16,[(1,.cells (exC e)),(3,.cells [.nilsl]),(6,.free),(19,.free)]⟩) (fun _=>Z) ?_ (fun _=>?_)
 .conv=>whnf
  refine⟨(),?_⟩;exact KZ0
 refine zy5 15 Z ?_;show SemOK Tryz.prog T Tryz.f72.results.toList [] (.sl .str (nmE e)) [] (zd1 2 zx5) ⟨[.any,.ptr 1 0,.any,.ptr 3 0]++zbh 16,[(1,.cells (exC e)),(3,.cells [.nilsl]),(6,.free),(19,.free),(15,.free)]⟩;refine zpl hT hmx ⟨[.any,.ptr 1 0,.any,.ptr 3 0,.any,.any,.fn 90 [.ptr 6 0]]++zbh 13,[(1,.cells (exC e)),(3,.cells [.own 15]),(6,.cells (exC e)),(19,.free),(15,.buf 9 .str [])]⟩ Z ?_ (g:=90) (caps:= [.ptr 6 0]) rfl
  (i0:=3) (k0:=15) (bi:=1000003) (ob:=1400000) (e:=9) (k:=.str) (X:=List Ex) (Y:=Ex) (xs:=fun s=>zg9 s) (args:=fun y=> [.agg (exC y)]) (next:=fun s y=>s++ [y]) (x₀:= []) (xE:=zje e) (r:=.tup []) (ib:= [.cells (exC e)]) rfl rfl rfl Z (fun _=>rfl) (fun s=>s.length<1000) ?_ ?_ ?_
 .conv=>whnf
  refine⟨[],[.cells (exC e)],.fn 90 [.ptr 2000000 0],f71 e,?_⟩;conv=>whnf
  ((conv=>whnf);refine q4 ?_ ?_;repeat' first|refine lc ?_ ?_|refine lh1 ?_ ?_|refine bc0 ?_|exact KXY|refine lg0 ?_|refine lt0 ?_)
  .exact trivial
  .exact zsw rfl rfl
 .intro l J h;exact(f126 l J (fun s y hs=>h s y hs) e he).sw [(6,1000001)] rfl
 .intro x y hx;by_cases hy:y.k=2
  .refine⟨1500015,OA,?_⟩;conv=>whnf
   refine brI (fun _=>?_) (fun h=>absurd hy (by simpa using h));conv=>whnf
   refine⟨?_,?_⟩
   .have:=zio x;simp only[q8,qA];omega
   conv=>whnf
   refine⟨?_⟩;refine lh1 (bc0 (lc (lr rfl) ln0)) (lh1 (bb0 ?_) lh0);rw[znp];simp[zg9,hy]
  .refine⟨1400000,OA,?_⟩;conv=>whnf
   refine brI (fun h=>absurd (by simpa using h) hy) (fun _=>?_);conv=>whnf
   refine⟨?_⟩;refine lh1 (bc0 (lc (lr rfl) ln0)) (lh1 (bb0 ?_) lh0);rw[znp];simp[zg9,hy]
 .refine jt hT hmx ?_;conv=>whnf
  refine⟨[.buf 9 .str (zpb (zg9 (zje e)))],_,f136 15 _ ?_,?_⟩
  .have h1:=zio (zje e);have h2:=zmq e;have h3:=zxa e;omega
  conv=>whnf
  refine⟨[.dead],[.buf 9 .str (Go.Lib.compact (zpb (zg9 (zje e))))],.own 2000000,f137 15 O _,?_⟩;conv=>whnf
  exact⟨xi rfl,lh0⟩
theorem zvv{l:List Ex}{s:zp}:s∈zg9 l<->∃y∈l,y.k=2/\y.s=s:=by
 induction l with
 |nil=>simp[zg9]
 |cons y l ih=>
  simp only[zg9];split
  .rename_i h;simp only[q6,ih];constructor
   .rintro(h1|⟨z,h1,h2⟩)
    .exact⟨y,.inl rfl,h,h1.symm⟩
    .exact⟨z,.inr h1,h2⟩
   .rintro⟨z,rfl|h1,h2,h3⟩
    .exact .inl h3.symm
    .exact .inr ⟨z,h1,h2,h3⟩
  .rename_i h;simp only[q6,ih];constructor
   .rintro⟨z,h1,h2⟩;exact⟨z,.inr h1,h2⟩
   .rintro⟨z,rfl|h1,h2,h3⟩
    .exact absurd h2 h
    .exact⟨z,h1,h2,h3⟩
theorem zsm{e:Ex}(h:okT e=true){s:zp}:s∈nmE e<->∃y∈zjt e,y.k=2/\y.s=s:=by
 unfold nmE;rw[zlz];unfold zpb;rw[List.mem_mergeSort,zvv];simp[zje,h]
