/-
  slices.Sort and slices.Compact of strings: the library's contracts, laid at this program's numbers, as contracts of the engine.
-/
import Derived.Test.YtlocddfailmnpaaGreatDoorQUa
import Derived.Shelf.Sort.Plain
import Derived.Shelf.Slices.In.SortNone
import Derived.Shelf.Slices.CompactS
import Derived.Test.YtlocddfailmnpaaGreatDoorQVa
import Derived.Test.YtlocddfailmnpaaGreatDoorQZz
set_option linter.unusedVariables false
set_option linter.unusedSimpArgs false
namespace Go.Proofs.YtlocddfailmnpaaGreatDoor
open Go Go.Sx
def zlx:Go.Shelf.Ren:=⟨fun|190=>107|125=>158|258=>157|128=>212|129=>213|302=>203|303=>204|304=>205|305=>206|306=>207|307=>208|308=>209|309=>210|310=>211|333=>236|329=>237|330=>238|334=>239|335=>240|336=>241|344=>253|n=>n,fun|31=>47|9=>9|3=>3|46=>145|0=>0|51=>110|53=>140|4=>4|183=>202|182=>201|131=>137|5=>5|218=>221|222=>107|228=>237|229=>238|n=>n,fun|n=>n⟩
theorem zsi:Go.Proofs.Lays.n190 Tryz.prog zlx where
 mixed:=by kernel_rfl
 f125:=Tryz.func158.trans (congrArg some (by kernel_rfl))
 f128:=Tryz.func212.trans (congrArg some (by kernel_rfl))
 f129:=Tryz.func213.trans (congrArg some (by kernel_rfl))
 f190:=Tryz.func107.trans (congrArg some (by kernel_rfl))
 f258:=Tryz.func157.trans (congrArg some (by kernel_rfl))
 f302:=Tryz.func203.trans (congrArg some (by kernel_rfl))
 f303:=Tryz.func204.trans (congrArg some (by kernel_rfl))
 f304:=Tryz.func205.trans (congrArg some (by kernel_rfl))
 f305:=Tryz.func206.trans (congrArg some (by kernel_rfl))
 f306:=Tryz.func207.trans (congrArg some (by kernel_rfl))
 f307:=Tryz.func208.trans (congrArg some (by kernel_rfl))
 f308:=Tryz.func209.trans (congrArg some (by kernel_rfl))
 f309:=Tryz.func210.trans (congrArg some (by kernel_rfl))
 f310:=Tryz.func211.trans (congrArg some (by kernel_rfl))
 f329:=Tryz.func237.trans (congrArg some (by kernel_rfl))
 f330:=Tryz.func238.trans (congrArg some (by kernel_rfl))
 f333:=Tryz.func236.trans (congrArg some (by kernel_rfl))
 f334:=Tryz.func239.trans (congrArg some (by kernel_rfl))
 f335:=Tryz.func240.trans (congrArg some (by kernel_rfl))
 f336:=Tryz.func241.trans (congrArg some (by kernel_rfl))
 f344:=Tryz.func253.trans (congrArg some (by kernel_rfl))
 t0:=Tryz.underlying0
 a0:=Tryz.isAgg0
 z0:=Tryz.sizeOf0
 v0:=Tryz.zeroValue0
 t3:=Tryz.underlying3
 a3:=Tryz.isAgg3
 z3:=Tryz.sizeOf3
 v3:=Tryz.zeroValue3
 t4:=Tryz.underlying4
 a4:=Tryz.isAgg4
 z4:=Tryz.sizeOf4
 v4:=Tryz.zeroValue4
 t5:=Tryz.underlying5
 a5:=Tryz.isAgg5
 z5:=Tryz.sizeOf5
 v5:=Tryz.zeroValue5
 t9:=Tryz.underlying9
 a9:=Tryz.isAgg9
 z9:=Tryz.sizeOf9
 v9:=Tryz.zeroValue9
 t31:=Tryz.underlying47
 a31:=Tryz.isAgg47
 z31:=Tryz.sizeOf47
 v31:=Tryz.zeroValue47
 t46:=Tryz.underlying145
 a46:=Tryz.isAgg145
 z46:=Tryz.sizeOf145
 v46:=Tryz.zeroValue145
 t51:=Tryz.underlying110
 a51:=Tryz.isAgg110
 z51:=Tryz.sizeOf110
 v51:=Tryz.zeroValue110
 t53:=Tryz.underlying140
 a53:=Tryz.isAgg140
 z53:=Tryz.sizeOf140
 v53:=Tryz.zeroValue140
 t131:=Tryz.underlying137
 a131:=Tryz.isAgg137
 z131:=Tryz.sizeOf137
 v131:=Tryz.zeroValue137
 t182:=Tryz.underlying201
 a182:=Tryz.isAgg201
 z182:=Tryz.sizeOf201
 v182:=Tryz.zeroValue201
 t183:=Tryz.underlying202
 a183:=Tryz.isAgg202
 z183:=Tryz.sizeOf202
 v183:=Tryz.zeroValue202
 t218:=Tryz.underlying221
 a218:=Tryz.isAgg221
 z218:=Tryz.sizeOf221
 v218:=Tryz.zeroValue221
 t222:=Tryz.underlying107
 a222:=Tryz.isAgg107
 z222:=Tryz.sizeOf107
 v222:=Tryz.zeroValue107
 t228:=Tryz.underlying237
 a228:=Tryz.isAgg237
 z228:=Tryz.sizeOf237
 v228:=Tryz.zeroValue237
 t229:=Tryz.underlying238
 a229:=Tryz.isAgg238
 z229:=Tryz.sizeOf238
 v229:=Tryz.zeroValue238
def zgl:Go.Shelf.Ren:=⟨fun|194=>108|n=>n,fun|31=>47|9=>9|3=>3|4=>4|0=>0|n=>n,fun|n=>n⟩
theorem zg7:Go.Proofs.Lays.n194 Tryz.prog zgl where
 mixed:=by kernel_rfl
 f194:=Tryz.func108.trans (congrArg some (by kernel_rfl))
 t0:=Tryz.underlying0
 a0:=Tryz.isAgg0
 z0:=Tryz.sizeOf0
 v0:=Tryz.zeroValue0
 t3:=Tryz.underlying3
 a3:=Tryz.isAgg3
 z3:=Tryz.sizeOf3
 v3:=Tryz.zeroValue3
 t4:=Tryz.underlying4
 a4:=Tryz.isAgg4
 z4:=Tryz.sizeOf4
 v4:=Tryz.zeroValue4
 t9:=Tryz.underlying9
 a9:=Tryz.isAgg9
 z9:=Tryz.sizeOf9
 v9:=Tryz.zeroValue9
 t31:=Tryz.underlying47
 a31:=Tryz.isAgg47
 z31:=Tryz.sizeOf47
 v31:=Tryz.zeroValue47
theorem zj8 (j i:Nat) (B:Blk):hget [(j,B)] i=if j=i then B else .dead :=by
 simp only[hget]
 by_cases h:j=i
 ·subst h;simp
 ·rw[if_neg h]
  have:Nat.beq j i=false:=by
   cases e:Nat.beq j i with
   |false=>rfl
   |true=>exact absurd (Nat.eq_of_beq_eq_true e) h
  rw[this]
section
variable {w w':World} {M:Nat→Prop} {pt:Nat→Option Nat} {ow:Nat→Option Value} {S:Nat→Prop} {j:Nat} {xs:List zg} {h:Value}
theorem zl9 (hc:Core M pt ow S [(j,.buf 9 .str xs)] w) (i:Nat):pt i=none:=by
 cases e:pt i with
 |none=>rfl
 |some b=>
  have:=hc.dpt i b e
  rw[zj8]at this
  split at this<;>cases this
theorem qaa (hc:Core M pt ow S [(j,.buf 9 .str xs)] w) {i:Nat} (hi:i≠j):ow i=none:=by
 cases e:ow i with
 |none=>rfl
 |some b=>
  have:=hc.dow i b e
  rw[zj8,if_neg (fun h=>hi h.symm)]at this
  cases this
theorem zfx (hc:Core M pt ow S [(j,.buf 9 .str xs)] w) (hj:ow j=some h):bl pt ow j=vbl h:=by
 unfold bl
 rw[zl9 hc,hj]
 cases h<;>first|rfl|(rename_i ao _ _;cases ao<;>rfl)
theorem zoo (hc:Core M pt ow S [(j,.buf 9 .str xs)] w) (hj:ow j=some h) (hos:w'.os=w.os) (htape:w'.tape=w.tape) (hout:w'.output=w.output) (hsz:w.heap.size≤w'.heap.size)
 (hsame: ∀b,b<w.heap.size→vbl h≠some b→w'.heap[b]? =w.heap[b]?) {ys:List zg} (hb:zai w' (zm w' M) 9 .str ys h):
 Ans w M pt ow S (.tup []) [(j,.buf 9 .str ys)] (.returned (.tuple #[])) w':=by
 refine⟨.tuple #[],M,pt,ow,S,rfl,?_,?_,⟨#[],rfl,trivial⟩,?_⟩
 ·exact {
   fresh:=fun b hb=>Nat.lt_of_lt_of_le (hc.fresh b hb) hsz
   mt:=hc.mt,inj:=hc.inj,gm:=hc.gm,gd:=hc.gd
   dpt:=fun i b e=>by rw[zl9 hc]at e;cases e
   dow:=fun i x e=>by
    by_cases hi:i=j
    ·subst hi;rw[zj8,if_pos rfl];rfl
    ·rw[qaa hc hi]at e;cases e
   blk:=fun i=>by
    rw[zj8]
    split
    ·rename_i e;subst e;exact⟨h,hj,hb⟩
    ·trivial}
 ·intro i l b cs T hl hb'
  rw[zl9 hc]at hb';cases hb'
 ·exact {
   os:=hos,tape:=htape,output:=hout,size:=hsz
   same:=fun b hb hn _=>hsame b hb fun e=>hn j (by rw[zfx hc hj];exact e)
   mm:=fun _ h=>h,mn:=fun _ h=> .inl h,sn:=fun _ h=> .inl h,lept:=fun _ _ h=> .inl h,leow:=fun _ _ h=> .inl h}
theorem zon (hc:Core M pt ow S [(j,.buf 9 .str xs)] w) (hj:ow j=some h) {h':Value} (hv:vbl h'=vbl h∨vbl h'=none) (hsl: ∃a n c,h'= .slice a n c) (hos:w'.os=w.os) (htape:w'.tape=w.tape) (hout:w'.output=w.output)
 (hsz:w.heap.size≤w'.heap.size) (hsame: ∀b,b<w.heap.size→vbl h≠some b→w'.heap[b]? =w.heap[b]?) {ys:List zg} (hb:zai w' (zm w' M) 9 .str ys h') (hj2:j≠2000000):
 Ans w M pt ow S (.own 2000000) [(j,.dead),(2000000,.buf 9 .str ys)] (.returned h') w':=by
 let ow':Nat→Option Value:=fun i=>if i=2000000 then some h' else none
 have hbl: ∀i b,bl (fun _=>none) ow' i=some b→i=2000000∧vbl h=some b:=fun i b e=>by
  by_cases hi:i=2000000
  ·refine⟨hi,?_⟩
   subst hi
   have e2:vbl h'=some b:=by
    simp only[bl,ow',if_true]at e
    obtain⟨a,n,c,rfl⟩:=hsl
    cases a<;>exact e
   rcases hv with h1|h1
   ·rw[←h1];exact e2
   ·rw[h1]at e2;cases e2
  ·simp only[bl,ow',if_neg hi]at e;cases e
 have hget2: ∀i,hget [(j,.dead),(2000000,.buf 9 .str ys)] i=if 2000000=i then .buf 9 .str ys else .dead :=fun i=>by
  rw[←zj8]
  show(match Nat.beq j i with|true=>Blk.dead|false=>hget [(2000000,Blk.buf 9 .str ys)] i)=_
  cases e:Nat.beq j i with
  |false=>rfl
  |true=>
   have:=Nat.eq_of_beq_eq_true e
   subst this
   rw[zj8,if_neg fun h=>hj2 h.symm]
 refine⟨h',M,fun _=>none,ow',S,rfl,?_,?_,?_,?_⟩
 ·exact {
   fresh:=fun b hb=>Nat.lt_of_lt_of_le (hc.fresh b hb) hsz
   mt:=fun i b e=>hc.mt j b (by rw[zfx hc hj];exact(hbl i b e).2)
   inj:=fun i k b e1 e2=>by rw[(hbl i b e1).1,(hbl k b e2).1]
   gm:=hc.gm
   gd:=fun i b e=>hc.gd j b (by rw[zfx hc hj];exact(hbl i b e).2)
   dpt:=fun i b e=>by cases e
   dow:=fun i x e=>by
    by_cases hi:i=2000000
    ·subst hi;rw[hget2,if_pos rfl];rfl
    ·simp only[ow',if_neg hi]at e;cases e
   blk:=fun i=>by
    rw[hget2]
    split
    ·rename_i e;subst e;exact⟨h',by simp[ow'],hb⟩
    ·trivial}
 ·intro i l b cs T hl hb'
  cases hb'
 ·refine⟨hsl,fun x hx=>?_⟩
  have:some h'=some x:=by simpa[ow']using hx
  exact Option.some.inj this
 ·exact {
   os:=hos,tape:=htape,output:=hout,size:=hsz
   same:=fun b hb hn _=>hsame b hb fun e=>hn j (by rw[zfx hc hj];exact e)
   mm:=fun _ h=>h,mn:=fun _ h=> .inl h,sn:=fun _ h=> .inl h,lept:=fun _ _ h=>by cases h
   leow:=fun i x hx=>by
    by_cases hi:i=2000000
    ·have hx2:h'=x:=by
      have:ow' i=some h':=by simp[ow',hi]
      rw[this]at hx;exact Option.some.inj hx
     subst hx2
     refine .inr ⟨fun b hb=> .inr ⟨j,?_⟩,by omega⟩
     rw[zfx hc hj]
     rcases hv with h1|h1
     ·rw[←h1];exact hb
     ·rw[h1]at hb;cases hb
    ·simp only[ow',if_neg hi]at hx;cases hx}
end
theorem zrc {w:World} {b cap:Nat} {cs:Array Value} (hb:w.heap[b]? =some (.cells cs 9 (0,0))) (hcs:cs.size=cap) (d:List zg) (hd:d.length≤cap) (n:Nat) (os:Array Obj) {w':World}
 (hw:w'=Go.Sort.grow (Go.Sort.putRow Go.Proofs.encStr (Go.Sort.ahead w n) b 0 d.toArray) os):
 w'.os=w.os∧w'.tape=w.tape∧w'.output=w.output∧w.heap.size≤w'.heap.size∧(∀c,c<w.heap.size→c≠b→w'.heap[c]? =w.heap[c]?)∧
  ∃cs':Array Value,w'.heap[b]? =some (.cells cs' 9 (0,0))∧cs'.size=cap∧ ∀(i:Nat) x,d[i]? =some x→cs'[i]? =some (.string ⟨x.toArray⟩):=by
 subst hw
 have hlt:b<w.heap.size:=ze hb
 refine⟨rfl,rfl,rfl,?_,fun c hc hne=>?_,Go.Sort.putCells Go.Proofs.encStr 0 d.toArray cs,?_,?_,fun i x hx=>?_⟩
 ·simp[Go.Sort.grow,Go.Sort.putRow,Go.Sort.mapBlock,Go.Sort.ahead]
 ·simp only[Go.Sort.grow,Go.Sort.putRow,Go.Sort.mapBlock,Go.Sort.ahead]
  rw[Array.getElem?_append_left (by simpa using hc),Array.getElem?_modify,if_neg (fun h=>hne h.symm)]
 ·simp only[Go.Sort.grow,Go.Sort.putRow,Go.Sort.mapBlock,Go.Sort.ahead]
  rw[Array.getElem?_append_left (by simpa using hlt),Array.getElem?_modify,if_pos rfl,hb]
  rfl
 ·simp[Go.Sort.putCells,hcs]
 ·have hi:i<d.length:=(List.getElem?_eq_some_iff.1 hx).1
  have hxe:d[i]=x:=(List.getElem?_eq_some_iff.1 hx).2
  have hic:i<cs.size:=by omega
  simp only[Go.Sort.putCells]
  rw[Array.getElem?_mapIdx,Array.getElem?_eq_getElem hic]
  simp only[Option.map_some]
  rw[if_pos (by simp;omega)]
  simp[hi,hxe]
theorem zoi {w':World} {V:ka} {b cap:Nat} {cs':Array Value} {d ys:List zg} (h1:w'.heap[b]? =some (.cells cs' 9 (0,0))) (h2:cs'.size=cap) (h3: ∀(i:Nat) x,d[i]? =some x→cs'[i]? =some (.string ⟨x.toArray⟩))
 (hy: ∀(i:Nat) x,ys[i]? =some x→d[i]? =some x) (hl:ys.length≤cap) (hm:cap≤maxLen):zai w' V 9 .str ys (.slice (some ⟨b,0,none⟩) ys.length cap):=by
 refine .inr ⟨b,cap,cs',rfl,h1,hl,hm,by rw[h2];simp[Elt.size],fun i x hx k u hu=>?_⟩
 match k,hu with
 |0,hu=>
  obtain rfl: .str x=u:=by simpa[Elt.cells]using hu
  refine⟨.string ⟨x.toArray⟩,?_,.str x⟩
  have:=h3 i x (hy i x hx)
  simpa[Elt.size]using this
 |k+1,hu=>simp[Elt.cells]at hu
theorem znr {w:World} {V:ka} {b:Nat} {cs:Array Value} {xs:List zg} (hb:w.heap[b]? =some (.cells cs 9 (0,0)))
 (hx: ∀(i:Nat) (x:zg),xs[i]? =some x→ ∀(j:Nat) (u:AV),(Elt.str.cells x)[j]? =some u→ ∃v,cs[i*Elt.str.size+j]? =some v∧Leaf V u v):Go.Sort.Holds Go.Proofs.encStr w b 0 xs.toArray:=by
 intro i hi
 have hi:i<xs.length:=by simpa using hi
 have hg:xs[i]? =some xs[i]:=List.getElem?_eq_getElem hi
 obtain⟨v,h1,h2⟩:=hx i xs[i] hg 0 (.str xs[i]) rfl
 cases h2
 have h1:cs[i]? =some (.string ⟨xs[i].toArray⟩):=by simpa[Elt.size]using h1
 constructor
 ·unfold World.cell?
  simp only[hb,Nat.zero_add]
  simp[h1,hi]
 ·unfold World.frozen?
  simp only[hb]
  simp
theorem zp7 (d:Array zg): ∀m,(Go.Lib.compactUpTo d m).length ≤m
 |0=>by simp[Go.Lib.compactUpTo]
 |m+1=>by
  rw[Go.Lib.compactUpTo_succ,List.length_append]
  have:=zp7 d m
  split<;>simp<;>omega
theorem zhn (xs:List zg):(Go.Lib.compact xs).length ≤xs.length:=zp7 _ _
theorem zni (d:Array zg) (x:zg): ∀m,x∈Go.Lib.compactUpTo d m↔ ∃j,j<m∧d[j]! =x
 |0=>by simp[Go.Lib.compactUpTo]
 |m+1=>by
  rw[Go.Lib.compactUpTo_succ,List.mem_append,zni d x m]
  constructor
  ·rintro(⟨j,h1,h2⟩|h)
   ·exact⟨j,by omega,h2⟩
   ·split at h
    ·simp only[List.mem_singleton]at h;exact⟨m,by omega,h.symm⟩
    ·simp at h
  ·rintro⟨j,h1,h2⟩
   rcases Nat.lt_or_ge j m with h3|h3
   ·exact .inl ⟨j,h3,h2⟩
   ·obtain rfl:j=m:=by omega
    by_cases hk:Go.Lib.keeps d j=true
    ·exact .inr (by rw[if_pos hk];simp[h2])
    ·refine .inl ⟨j-1,?_⟩
     have hj:0<j:=by
      rcases Nat.eq_zero_or_pos j with h0|h0
      ·subst h0;exact absurd (by simp[Go.Lib.keeps]) hk
      ·exact h0
     refine⟨by omega,?_⟩
     by_cases he:d[j]! =d[j-1]!
     ·rw[←he];exact h2
     ·exact absurd (Go.Lib.keeps_pos he) hk
theorem zlp (xs:List zg) (x:zg):x∈Go.Lib.compact xs↔x∈xs:=by
 unfold Go.Lib.compact
 rw[zni]
 constructor
 ·rintro⟨j,h1,h2⟩
  rw[←h2]
  simp[h1]
 ·intro h
  obtain⟨j,h1,h2⟩:=List.getElem_of_mem h
  exact⟨j,h1,by simp[h1,h2]⟩
def zox (xs:List zg):List zg:=xs.mergeSort fun x y=>decide (x≤y)
theorem qdr:Ent Tryz.prog 107:=⟨Tryz.f107,Tryz.func107,by kernel_rfl,by kernel_rfl⟩
theorem qdq:Ent Tryz.prog 108:=⟨Tryz.f108,Tryz.func108,by kernel_rfl,by kernel_rfl⟩
theorem f136 (j:Nat) (xs:List zg) (hx:xs.length<4611686018427387904):zd3 Tryz.prog 107 [(j,.buf 9 .str xs)] [.own j] (.tup []) [(j,.buf 9 .str (zox xs))]:=by
 refine⟨qdr,fun w M pt ow S vs hc _ ha=>?_⟩
 match vs,ha with
 | [v],⟨⟨_,hv⟩,_⟩=>
   have hbj:=hc.blk j
   rw[zj8,if_pos rfl]at hbj
   obtain⟨h,hj,hb⟩:=hbj
   obtain rfl:v=h:=hv h hj
   have none:xs= []→ ∀p cap,v= .slice p 0 cap→Calls Tryz.prog 107 #[v] w (Ans w M pt ow S (.tup []) [(j,.buf 9 .str (zox xs))]):=fun hx0 p cap hp=>by
    have e:zox xs=xs:=by subst hx0;simp[zox]
    rw[e,hp]
    refine(Go.Proofs.Any.slices_Sort_string_none zsi p cap w).mono ?_
    rintro e w' ⟨rfl,rfl⟩
    exact zoo hc hj rfl rfl rfl (Nat.le_refl _) (fun _ _ _=>rfl) hb
   rcases hb with ⟨h1,h2⟩|⟨b,cap,cs,h1,h2,h3,h4,h5,h6⟩
   ·exact none h2 _ _ h1
   ·by_cases hx0:xs= []
    ·exact none hx0 _ _ (by rw[h1,hx0];rfl)
    ·have hlt:=ze h2
     have hcs:cs.size=cap:=by rw[h5];simp[Elt.size]
     subst h1
     refine(Go.Proofs.Any.slices_Sort_string zsi b 0 cap xs w (znr h2 h6) hlt hx).mono ?_
     rintro e w' ⟨rfl,n,os,hw⟩
     have hl:(zox xs).length =xs.length:=List.length_mergeSort _
     obtain⟨g1,g2,g3,g4,g5,cs',g6,g7,g8⟩:=zrc h2 hcs (zox xs) (by omega) n os hw
     have hbuf:=zoi (V:=zm w' M) (ys:=zox xs) g6 g7 g8 (fun _ _ h=>h) (by omega) h4
     rw[hl]at hbuf
     exact zoo hc hj g1 g2 g3 g4 (fun c hc' hne=>g5 c hc' fun e=>hne (by rw[e];rfl)) hbuf
theorem f137 (j:Nat) (hj2:j≤999999) (xs:List zg):zd3 Tryz.prog 108 [(j,.buf 9 .str xs)] [.own j] (.own 2000000) [(j,.dead),(2000000,.buf 9 .str (Go.Lib.compact xs))]:=by
 refine⟨qdq,fun w M pt ow S vs hc _ ha=>?_⟩
 match vs,ha with
 | [v],⟨⟨_,hv⟩,_⟩=>
   have hbj:=hc.blk j
   rw[zj8,if_pos rfl]at hbj
   obtain⟨h,hj,hb⟩:=hbj
   obtain rfl:v=h:=hv h hj
   have none:xs= []→ ∀p cap,v= .slice p 0 cap→Calls Tryz.prog 108 #[v] w (Ans w M pt ow S (.own 2000000) [(j,.dead),(2000000,.buf 9 .str (Go.Lib.compact xs))]):=fun hx0 p cap hp=>by
    have e:Go.Lib.compact xs=xs:=by subst hx0;rfl
    rw[e,hp]
    refine(Go.Proofs.Any.slices_Compact_string_empty zg7 p cap w).mono ?_
    rintro e w' ⟨rfl,rfl⟩
    rw[←hp]
    exact zon hc hj (.inl rfl) ⟨_,_,_,hp⟩ rfl rfl rfl (Nat.le_refl _) (fun _ _ _=>rfl) hb (by omega)
   rcases hb with ⟨h1,h2⟩|⟨b,cap,cs,h1,h2,h3,h4,h5,h6⟩
   ·exact none h2 _ _ h1
   ·by_cases hx0:xs= []
    ·exact none hx0 _ _ (by rw[h1,hx0];rfl)
    ·have hlt:=ze h2
     have hcs:cs.size=cap:=by rw[h5];simp[Elt.size]
     have hm:maxLen=9223372036854775807:=by decide
     subst h1
     refine(Go.Proofs.Any.slices_Compact_string zg7 b 0 cap xs w (znr h2 h6) (by omega) h3).mono ?_
     rintro e w' ⟨rfl,n,hw⟩
     have hl:(Go.Lib.compact xs).length ≤xs.length:=zhn xs
     have hw2:w'=Go.Sort.grow (Go.Sort.putRow Go.Proofs.encStr (Go.Sort.ahead w n) b 0 (Go.Lib.compact xs++List.replicate (xs.length-(Go.Lib.compact xs).length) []).toArray) #[]:=by rw[hw];simp
     obtain⟨g1,g2,g3,g4,g5,cs',g6,g7,g8⟩:=zrc h2 hcs _ (by simp;omega) n #[] hw2
     have hbuf:=zoi (V:=zm w' M) (ys:=Go.Lib.compact xs) g6 g7 g8 (fun i x h=>by rw[List.getElem?_append_left (List.getElem?_eq_some_iff.1 h).1];exact h) (by omega) h4
     exact zon hc hj (h':= .slice (some ⟨b,0,Option.none⟩) (Go.Lib.compact xs).length cap) (.inl rfl) ⟨_,_,_,rfl⟩ g1 g2 g3 g4 (fun c hc' hne=>g5 c hc' fun e=>hne (by rw[e];rfl)) hbuf (by omega)
end Go.Proofs.YtlocddfailmnpaaGreatDoor

namespace Go.Proofs.YtlocddfailmnpaaGreatDoor
open Go Go.Sx
set_option maxRecDepth 100000
set_option maxHeartbeats 8000000
def zg2:List Ex→List zg
 | []=> []
 |y::l=>if y.k=2 then y.s::zg2 l else zg2 l
theorem znb (l m:List Ex):zg2 (l++m)=zg2 l++zg2 m:=by
 induction l with
 |nil=>rfl
 |cons y l ih=>simp only[List.cons_append,zg2,ih];split<;>rfl
theorem zic (l:List Ex):(zg2 l).length ≤l.length:=by
 induction l with
 |nil=>exact Nat.le_refl _
 |cons y l ih=>simp only[zg2];split<;>simp<;>omega
def nmE (e:Ex):List zg:=Go.Lib.compact (zox (zg2 (zi1 e)))
noncomputable def zxi:Code:=Tryz.f55.body.getD .skip
theorem f91 (e:Ex) (he:Sm e):Fn 55 [] [.agg (exC e)] (.sl .str (nmE e)) []:=by
 refine wl (code:=zxi) hT hmx Tryz.func55 rfl rfl (ex:= []) ?_;conv=>whnf
 refine kf hT hmx 2 (fun _:Unit=>⟨[.any,.ptr 1 0,.any,.ptr 3 0]++zd0 16,[(1,.cells (exC e)),(3,.cells [.nilsl]),(6,.free),(19,.free)]⟩) (fun _=>by kernel_rfl) ?_ (fun _=>?_)
 ·conv=>whnf
  refine⟨(),?_⟩
  ((conv=>whnf);refine And.intro ?_ ?_;repeat' first|refine lc ?_ ?_|exact la0|exact lr rfl|exact ln0|refine lh1 ?_ ?_|exact lh0|exact bf0|exact bd0|refine bc0 ?_|exact bm0 rfl|exact bg0 rfl|exact li0 rfl|refine lg0 ?_|refine lt0 ?_|fail)
 refine zyh 15 (by kernel_rfl) ?_
 show SemOK Tryz.prog T Tryz.f55.results.toList [] (.sl .str (nmE e)) [] (zkk 2 zxi) ⟨[.any,.ptr 1 0,.any,.ptr 3 0]++zd0 16,[(1,.cells (exC e)),(3,.cells [.nilsl]),(6,.free),(19,.free),(15,.free)]⟩
 refine zo7 hT hmx ⟨[.any,.ptr 1 0,.any,.ptr 3 0,.any,.any,.fn 154 [.ptr 6 0]]++zd0 13,[(1,.cells (exC e)),(3,.cells [.own 15]),(6,.cells (exC e)),(19,.free),(15,.buf 9 .str [])]⟩ (by kernel_rfl) ?_ (g:=154) (caps:= [.ptr 6 0]) rfl
  (i0:=3) (k0:=15) (bi:=1000003) (ob:=1400000) (e:=9) (k:= .str) (X:=List Ex) (Y:=Ex) (xs:=fun s=>zg2 s) (args:=fun y=> [.agg (exC y)]) (next:=fun s y=>s++ [y]) (x₀:= []) (xE:=zi1 e) (r:= .tup []) (ib:= [.cells (exC e)]) rfl rfl rfl (by kernel_rfl) (fun _=>rfl) (fun s=>s.length<1000) ?_ ?_ ?_
 ·conv=>whnf
  refine⟨[],[.cells (exC e)],.fn 154 [.ptr 2000000 0],f71 e,?_⟩;conv=>whnf
  ((conv=>whnf);refine And.intro ?_ ?_;repeat' first|refine lc ?_ ?_|exact la0|exact lr rfl|exact ln0|refine lh1 ?_ ?_|exact lh0|exact bf0|exact bd0|refine bc0 ?_|exact bm0 rfl|exact bg0 rfl|exact li0 rfl|refine lg0 ?_|refine lt0 ?_|fail)
  ·exact trivial
  ·exact zsh rfl rfl
 ·intro l J h
  exact(f126 l J (fun s y hs=>h s y hs) e he).sw [(6,1000001)] rfl
 ·intro x y hx
  by_cases hy:y.k=2
  ·refine⟨1500015,by decide,?_⟩;conv=>whnf
   refine brI (fun _=>?_) (fun h=>absurd hy (by simpa using h))
   conv=>whnf
   refine⟨?_,?_⟩
   ·have:=zic x
    simp only[List.length_cons,List.length_nil];omega
   conv=>whnf
   refine⟨?_⟩
   refine lh1 (bc0 (lc (lr rfl) ln0)) (lh1 (bb0 ?_) lh0)
   rw[znb];simp[zg2,hy]
  ·refine⟨1400000,by decide,?_⟩;conv=>whnf
   refine brI (fun h=>absurd (by simpa using h) hy) (fun _=>?_)
   conv=>whnf
   refine⟨?_⟩
   refine lh1 (bc0 (lc (lr rfl) ln0)) (lh1 (bb0 ?_) lh0)
   rw[znb];simp[zg2,hy]
 ·refine wj hT hmx ?_;conv=>whnf
  refine⟨[.buf 9 .str (zox (zg2 (zi1 e)))],_,f136 15 _ ?_,?_⟩
  ·have h1:=zic (zi1 e)
   have h2:=zmh e
   have h3:=zwm e
   omega
  conv=>whnf
  refine⟨[.dead],[.buf 9 .str (Go.Lib.compact (zox (zg2 (zi1 e))))],.own 2000000,f137 15 (by omega) _,?_⟩;conv=>whnf
  exact⟨yt rfl,lh0⟩
end Go.Proofs.YtlocddfailmnpaaGreatDoor

namespace Go.Proofs.YtlocddfailmnpaaGreatDoor
open Go Go.Sx
theorem zu8 {l:List Ex} {s:zg}:s∈zg2 l↔ ∃y∈l,y.k=2∧y.s=s:=by
 induction l with
 |nil=>simp[zg2]
 |cons y l ih=>
  simp only[zg2]
  split
  ·rename_i h
   simp only[List.mem_cons,ih]
   constructor
   ·rintro(h1|⟨z,h1,h2⟩)
    ·exact⟨y,.inl rfl,h,h1.symm⟩
    ·exact⟨z,.inr h1,h2⟩
   ·rintro⟨z,rfl|h1,h2,h3⟩
    ·exact .inl h3.symm
    ·exact .inr ⟨z,h1,h2,h3⟩
  ·rename_i h
   simp only[List.mem_cons,ih]
   constructor
   ·rintro⟨z,h1,h2⟩;exact⟨z,.inr h1,h2⟩
   ·rintro⟨z,rfl|h1,h2,h3⟩
    ·exact absurd h2 h
    ·exact⟨z,h1,h2,h3⟩
theorem zr8 {e:Ex} (h:okT e=true) {s:zg}:s∈nmE e↔ ∃y∈zjg e,y.k=2∧y.s=s:=by
 unfold nmE
 rw[zlp]
 unfold zox
 rw[List.mem_mergeSort,zu8]
 simp[zi1,h]
end Go.Proofs.YtlocddfailmnpaaGreatDoor

namespace Go.Proofs.YtlocddfailmnpaaGreatDoor
open Go Go.Sx
set_option maxRecDepth 100000
set_option maxHeartbeats 8000000
end Go.Proofs.YtlocddfailmnpaaGreatDoor

namespace Go.Proofs.YtlocddfailmnpaaGreatDoor
open Go Go.Sx
set_option maxRecDepth 100000
set_option maxHeartbeats 8000000
end Go.Proofs.YtlocddfailmnpaaGreatDoor

namespace Go.Proofs.YtlocddfailmnpaaGreatDoor
open Go Go.Sx
end Go.Proofs.YtlocddfailmnpaaGreatDoor

namespace Go.Proofs.YtlocddfailmnpaaGreatDoor
open Go Go.Sx
set_option maxRecDepth 100000
set_option maxHeartbeats 8000000
end Go.Proofs.YtlocddfailmnpaaGreatDoor

namespace Go.Proofs.YtlocddfailmnpaaGreatDoor
open Go Go.Sx
set_option maxRecDepth 100000
set_option maxHeartbeats 8000000
end Go.Proofs.YtlocddfailmnpaaGreatDoor
