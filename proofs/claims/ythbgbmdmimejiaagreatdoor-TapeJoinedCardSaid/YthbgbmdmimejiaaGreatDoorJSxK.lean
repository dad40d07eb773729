/- Stores; growing slices. -/
import Derived.Test.YthbgbmdmimejiaaGreatDoorJSxJ
set_option linter.all false
open Nat renaming mul_le_mul_right->q0,succ_mul->q1
open Go.Result renaming andThen_ok->q2
namespace Go.Sx
open Go
section
variable {P:Program} {T:Tab} {F:Wf} {C:Con} {c:Ctx} {o:Oper} {Y:St} {a:Act} {w:World} {E:AV->List Blk->Prop} {ids:List Nat} {bs:List Blk} {dst:Nat}
theorem zxh{t:TypeId}{inf:TypeInfo}(hi:P.info? t=some inf){b off:Nat}{cs:Array Value}{Ty:TypeId}(hcs:w.heap[b]? =some (.cells cs Ty (0,0))){v:Value}(hl:v.cells.size=inf.size)
 (hle:off+v.cells.size<=cs.size) (h1:∀u∈v.cells.toList,u.oneCell'=true):(storeVar t ⟨b,off,none⟩ v).run P w=.ok () (w.setRow b (zeu cs.toList off v.cells.toList).toArray):=by
 have:=run_storeCells_at P b off Ty v.cells.toList 0 cs w hcs (by simpa using hle) h1;simp only[Nat.add_zero]at this;simp only[storeVar,Sem.run_bind,zb7 hi,q2,hl,ne_eq,not_true,if_false,this,zeu]
theorem zq5(hT:TabOK P T)(h:Rel c Y a w){t:TypeId}{x y:Operand}(ho:o.op=.store t x y)(he:ql T C (.store t x y) dst (zg Y.sl) (nd T o Y) (zw Y.hp (nd T o Y)) E):Snd P F T c o Y a w E:=by
 obtain⟨M,pt,ow,S,hg,hs,hr⟩:=h.own;have hx:=zc hr x;have hw:wr o.op=true:=by simp[wr,ho]
 simp only[ql]at he;obtain⟨i,hmem,he⟩:=qq _ _ _ he;have hi:=hT.ti _ _ hmem;obtain⟨inf,zv,hinf,hsz,_,_,_,_⟩:=hi.inf;split at he
 .rename_i hl1 h1;have hcells:=(zc hr y).cells h1;have hlen:(a.eval y).cells.size =inf.size:=by
   have:=hcells.length;rw[zc7 _ _ hl1]at this;rw[hsz];simpa using this.symm
  have hone:=hcells.one h1;split at he
  .rename_i j off e;have hn:nd T o Y= [j]:=by simp[nd,ho,yz,e,pid]
   rw[hn,wu]at he;split at he
   .rename_i l hl;simp at hl;obtain⟨hle,he⟩:=zdb _ _ _ _ he;obtain⟨b,cs,Ty,hb,hcs⟩:=hg.cel j l hl;rw[e]at hx;simp only[R]at hx;have hxe:=hx.2 b hb;have hrs:=(hs pt ow (Agr.refl _ _ _)).2 j l b cs Ty hl hb hcs;refine⟨_,_,he,fun Q=>?_⟩;rw[hn];refine zqj (w':=w.setRow b (zeu cs.toList off (a.eval y).cells.toList).toArray) ?_ (h.write hl hw _ cs _ Ty b ?_ hcs rfl)
    .have hle':off+(a.eval y).cells.size <=cs.size:=by
      have e1:=hrs.length;have e2:=hcells.length;simp at e1 e2;omega
     simp only[execOp,ho,Instr.storeAt,hxe,Instr.sureAddr,Sem.run_bind,Sem.run_pure,q2,zxh hinf hcs hlen hle' hone]
    .intro M' pt' ow' S' hg' hs';have hx':=zc (hs' pt' ow' (Agr.refl _ _ _)).1 x;rw[e]at hx';simp only[R]at hx';obtain⟨b',cs',Ty',hb',hcs'⟩:=hg'.cel j l hl;have:=hx'.2 b' hb';rw[hxe]at this;simp at this;subst this;rw[hcs]at hcs';simp at hcs';obtain⟨rfl,rfl⟩:=hcs';refine⟨hb',fun pt'' ow'' hag=>?_⟩;have:=((hs' pt'' ow'' hag).2 j l b cs Ty hl hb' hcs).lay ((zc (hs' pt'' ow'' hag).1 y).cells h1) off;simpa using this
   .exact he.elim
  .rename_i j sz q e;have hn:nd T o Y= [j]:=by simp[nd,ho,yz,e,pid]
   rw[hn,wu]at he;split at he
   .rename_i et k xs hl;simp at hl;split at he
    .rename_i e1 e2;have e1:=(zb _ _).1 e1;have e2:=(zb _ _).1 e2;subst e1;obtain⟨yv,⟨hq,hE⟩,_,hlf⟩:=yg he;refine⟨_,_,hE,fun Q=>?_⟩;rw[hn];have key:∀M pt ow S,Good c M pt ow S Y.hp w->zdq Y a w M pt ow->∃b cap cs,a.eval x=.pointer (some ⟨b,q*k.size,none⟩)/\ow j=some (.slice (some ⟨b,0,none⟩) xs.length cap)/\w.heap[b]? =some (.cells cs et (0,0))/\
      xs.length<=cap/\cap<=maxLen/\cs.size=cap*k.size/\∀(i:Nat)(x:k.T),xs[i]? =some x->∀(j:Nat)(u:AV),(k.cells x)[j]? =some u->∃v,cs[i*k.size+j]? =some v/\Leaf (zj w M) u v:=by
      intro M pt ow S hg hs;obtain⟨hdr,how,hbuf⟩:=hg.buf j et k xs hl;have hx:=zc (hs pt ow (Agr.refl _ _ _)).1 x;rw[e]at hx;simp only[R]at hx;obtain⟨b,n,cc,hh,hxe⟩:=hx.2 hdr how;rcases hbuf with ⟨hh',hxs⟩|⟨b',cap,cs,hh',hcs,h3,h4,h5,h6⟩
      .subst hxs;simp at hq
      .rw[hh]at hh';simp at hh';obtain⟨rfl,rfl,rfl⟩:=hh';exact⟨b,cc,cs,by simpa using hxe,by rw[how,hh],hcs,h3,h4,h5,h6⟩
     obtain⟨b,cap,cs,hxe,how,hcs,hc1,hc2,hc3,hc4⟩:=key M pt ow S hg hs;have hle':q*k.size+(a.eval y).cells.size <=cs.size:=by
      rw[hlen,hsz,e2,hc3]
      calc q*k.size+k.size=(q+1)*k.size:=by rw[q1]
       _<=cap*k.size:=q0 _ O
     let cs':Array Value:=(zeu cs.toList (q*k.size) (a.eval y).cells.toList).toArray
     have hcs'l:cs'.size=cs.size:=by
      simp only[cs',List.size_toArray];rw[uf _ _ _ (by simpa using hle')];simp
     refine zqj (w':=w.setRow b cs') ?_ ?_
     .simp only[execOp,ho,Instr.storeAt,hxe,Instr.sureAddr,Sem.run_bind,Sem.run_pure,q2,zxh hinf hcs hlen hle' hone,cs']
     .refine h.writeB (Wr.row w b cs') hw _ rfl fun M pt ow S hg hs=>?_
      obtain⟨b',cap',cs2,hxe',how,hcs2,hc1,hc2,hc3,hc4⟩:=key M pt ow S hg hs;rw[hxe]at hxe';simp at hxe';subst hxe';rw[hcs]at hcs2;simp at hcs2;subst hcs2;have hptj:pt j=none:=hg.ptow how;rw[hl];refine⟨by simp[bl,hptj,how],rfl,rfl,rfl,rfl,fun V' hV=>⟨_,how,.inr ⟨b,cap',cs',OC,setRow_heap w b cs cs' et (0,0) hcs,by simpa using hc1,hc2,by rw[hcs'l];exact hc3,?_⟩⟩,fun l e=>by cases e⟩;intro i z hz jj u hu;have hjj:jj<k.size:=by have:=(List.getElem?_eq_some_iff.1 hu).1;rwa [qx]at this
      have hlfy:=hlf ⟨zj w M,pt,ow⟩ _ ((zc (hs pt ow (Agr.refl _ _ _)).1 y).cells h1);have hysz:(a.eval y).cells.toList.length =k.size:=by simpa[hlen,hsz]using e2
      have hcl':q*k.size+k.size<=cs.toList.length:=by simpa[hlen,hsz,e2]using hle'
      have hgetc:∀n:Nat,cs'[n]? =(zeu cs.toList (q*k.size) (a.eval y).cells.toList)[n]? :=fun n=>by simp[cs']
      by_cases hiq:i=q
      .subst hiq;rw[List.getElem?_set_self hq]at hz;cases hz
       have hyl:jj<(a.eval y).cells.toList.length :=O;refine⟨(a.eval y).cells.toList[jj],?_,(hlfy.2 jj u _ hu (List.getElem?_eq_getElem hyl)).mono hV⟩;rw[hgetc];unfold zeu;rw[List.append_assoc,List.getElem?_append_right OE];have:i*k.size+jj-(cs.toList.take (i*k.size)).length =jj:=by simp at hcl'⊢;omega
       rw[this,List.getElem?_append_left hyl];exact List.getElem?_eq_getElem hyl
      .rw[List.getElem?_set_ne (fun h=>hiq h.symm)]at hz;obtain⟨v,hv,hlv⟩:=hc4 i z hz jj u hu;refine⟨v,?_,hlv.mono hV⟩;rw[hgetc];have hv':cs.toList[i*k.size+jj]? =some v:=by simpa using hv
       unfold zeu;by_cases hlt:i<q
       .have hle2:i*k.size+jj<q*k.size:=by
         calc i*k.size+jj<i*k.size+k.size:=by omega
          _=(i+1)*k.size:=by rw[q1]
          _<=q*k.size:=q0 _ O
        rw[List.append_assoc,List.getElem?_append_left (by simp at hcl'⊢;omega),List.getElem?_take,Z4 hle2];exact hv'
       .have hge:q*k.size+k.size<=i*k.size+jj:=by
         calc q*k.size+k.size=(q+1)*k.size:=by rw[q1]
          _<=i*k.size:=q0 _ O
          _<=_:=Nat.le_add_right _ _
        have hl2:(cs.toList.take (q*k.size)++(a.eval y).cells.toList).length =q*k.size+k.size:=by
         rw[List.length_append,hysz,List.length_take];omega
        rw[List.getElem?_append_right (by rw[hl2];exact hge),hl2,List.getElem?_drop,hysz];rw[show q*k.size+k.size+(i*k.size+jj-(q*k.size+k.size))=i*k.size+jj from O];exact hv'
    .exact he.elim
   .exact he.elim
  .exact he.elim
 .exact he.elim
end
