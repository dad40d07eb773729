/- Stores; growing slices. -/
import Derived.Test.YtlbmkjbgfkgcmaaGreatDoorTSxJ
set_option linter.all false
open List renaming append_assoc->q1,getElem?_eq_getElem->q2,getElem?_take->q3,getElem?_drop->q4,drop_drop->qB
open Nat renaming mul_le_mul_right->q0,succ_mul->qA
open Go.Result renaming andThen_ok->qC
open Go.Sem renaming run_bind->qD,run_pure->qE
namespace Go.Sx
open Go
section
variable {P:Program} {T:Tab} {F:Wf} {C:Con} {c:Ctx} {o:Oper} {Y:St} {a:Act} {w:World} {E:AV->List Blk->Prop} {ids:List Nat} {bs:List Blk} {dst:Nat}
theorem zoj{t:TypeId}{inf:TypeInfo}(hi:P.info? t=some inf){b off:Nat}{cs:Array Value}{Ty:TypeId}(hcs:w.heap[b]? =some (.cells cs Ty (0,0))){v:Value}(hl:v.cells.size=inf.size)
 (hle:off+v.cells.size<=cs.size) (h1:∀u∈v.cells.toList,u.oneCell'=true):(storeVar t ⟨b,off,none⟩ v).run P w=.ok () (w.setRow b (zar cs.toList off v.cells.toList).toArray):=by
 have:=run_storeCells_at P b off Ty v.cells.toList 0 cs w hcs (by simpa using hle) h1;simp only[Nat.add_zero]at this;simp only[storeVar,qD,zcu hi,qC,hl,ne_eq,not_true,if_false,this,zar]
theorem qa1{α:Type}(l:List α)(a k off:Nat)(m:List α)(h1:off+m.length<=k)(h2:a+k<=l.length):zar l (a+off) m=zar l a (zar ((l.drop a).take k) off m):=by
 have e:(zar ((l.drop a).take k) off m).length =k:=by rw[jf _ _ _ OE];simp;omega
 have e2:l.drop (a+off+m.length)=((l.drop a).take k).drop (off+m.length)++l.drop (a+k):=by
  rw[List.drop_take,qB,<-Nat.add_assoc];have:l.drop (a+k)=(l.drop (a+off+m.length)).drop (k-(off+m.length)):=by rw[qB];congr 1;omega
  rw[this,List.take_append_drop]
 have e3:l.take (a+off)=l.take a++((l.drop a).take k).take off:=by
  rw[List.take_add,List.take_take,Nat.min_eq_left O]
 unfold zar at e⊢;rw[e,e2,e3];simp only[q1]
theorem zrs(hT:TabOK P T)(h:Rel c Y a w){t:TypeId}{x y:Operand}(ho:o.op=.store t x y)(he:qo T C (.store t x y) dst (zm Y.sl) (nd T o Y) (qj Y.hp (nd T o Y)) E):Snd P F T c o Y a w E:=by
 obtain⟨M,pt,ow,S,hg,hs,hr⟩:=h.own;have hx:=zc hr x;have hw:wr o.op=true:=by simp[wr,ho]
 simp only[qo]at he;obtain⟨i,hmem,he⟩:=qu _ _ _ he;have hi:=hT.ti _ _ hmem;obtain⟨inf,zv,hinf,hsz,_,_,_,_⟩:=hi.inf;split at he
 .rename_i hl1 h1;have hcells:=(zc hr y).cells h1;have hlen:(a.eval y).cells.size =inf.size:=by
   have:=hcells.length;rw[zd5 _ _ hl1]at this;rw[hsz];simpa using this.symm
  have hone:=hcells.one h1;split at he
  .rename_i j off e;have hn:nd T o Y= [j]:=by simp[nd,ho,xt,e,pid]
   rw[hn,jb]at he;split at he
   .rename_i l hl;simp at hl;obtain⟨hle,he⟩:=zcl _ _ _ _ he;obtain⟨b,cs,Ty,hb,hcs⟩:=hg.cel j l hl;rw[e]at hx;simp only[R]at hx;have hxe:=hx.2 b hb;have hrs:=(hs pt ow (Agr.refl _ _ _)).2 j l b cs Ty hl hb hcs;refine⟨_,_,he,fun Q=>?_⟩;rw[hn];refine znu (w':=w.setRow b (zar cs.toList off (a.eval y).cells.toList).toArray) ?_ (h.write hl hw _ cs _ Ty b ?_ hcs rfl)
    .have hle':off+(a.eval y).cells.size <=cs.size:=by
      have e1:=hrs.length;have e2:=hcells.length;simp at e1 e2;omega
     simp only[execOp,ho,Instr.storeAt,hxe,Instr.sureAddr,qD,qE,qC,zoj hinf hcs hlen hle' hone]
    .intro M' pt' ow' S' hg' hs';have hx':=zc (hs' pt' ow' (Agr.refl _ _ _)).1 x;rw[e]at hx';simp only[R]at hx';obtain⟨b',cs',Ty',hb',hcs'⟩:=hg'.cel j l hl;have:=hx'.2 b' hb';rw[hxe]at this;simp at this;subst this;rw[hcs]at hcs';simp at hcs';obtain⟨rfl,rfl⟩:=hcs';refine⟨hb',fun pt'' ow'' hag=>?_⟩;have:=((hs' pt'' ow'' hag).2 j l b cs Ty hl hb' hcs).lay ((zc (hs' pt'' ow'' hag).1 y).cells h1) off;simpa using this
   .exact he.elim
  .rename_i j sz q off e;have hn:nd T o Y= [j]:=by simp[nd,ho,xt,e,pid]
   rw[hn,jb]at he;split at he
   .rename_i et k xs hl;simp at hl;have key:sz=k.size->q<xs.length->∀M pt ow S,Good c M pt ow S Y.hp w->zdj Y a w M pt ow->∃b cap cs,a.eval x=.pointer (some ⟨b,q*k.size+off,none⟩)/\ow j=some (.slice (some ⟨b,0,none⟩) xs.length cap)/\w.heap[b]? =some (.cells cs et (0,0))/\
     xs.length<=cap/\cap<=maxLen/\cs.size=cap*k.size/\∀(i:Nat)(x:k.T),xs[i]? =some x->∀(j:Nat)(u:AV),(k.cells x)[j]? =some u->∃v,cs[i*k.size+j]? =some v/\Leaf (zo w M) u v:=by
     intro hsz hq M pt ow S hg hs;subst hsz;obtain⟨hdr,how,hbuf⟩:=hg.buf j et k xs hl;have hx:=zc (hs pt ow (Agr.refl _ _ _)).1 x;rw[e]at hx;simp only[R]at hx;obtain⟨b,n,cc,hh,hxe⟩:=hx.2 hdr how;rcases hbuf with ⟨hh',hxs⟩|⟨b',cap,cs,hh',hcs,h3,h4,h5,h6⟩
     .subst hxs;simp at hq
     .rw[hh]at hh';simp at hh';obtain⟨rfl,rfl,rfl⟩:=hh';exact⟨b,cc,cs,hxe,by rw[how,hh],hcs,h3,h4,h5,h6⟩
    have core:∀(hsz:sz=k.size)(hq:q<xs.length)(yv:k.T)(hE:E .any [.buf et k (xs.set q yv)])(vs:List Value)(hvl:vs.length=k.size)
     (hlf:∀M pt ow S,Good c M pt ow S Y.hp w->zdj Y a w M pt ow->jz (zo w M) (k.cells yv) vs) (b:Nat) (cs:Array Value) (hcs:w.heap[b]? =some (.cells cs et (0,0))) (hxe:a.eval x=.pointer (some ⟨b,q*k.size+off,none⟩)) (hle:q*k.size+k.size<=cs.size)
     (hrun:(execOp a.eval o).run P w=.ok .skip (w.setRow b (zar cs.toList (q*k.size) vs).toArray)),Snd P F T c o Y a w E:=by
     intro hsz hq yv hE vs hvl hlf b cs hcs hxe hle hrun;refine⟨_,_,hE,fun Q=>?_⟩;rw[hn]
     let cs':Array Value:=(zar cs.toList (q*k.size) vs).toArray
     have hcs'l:cs'.size=cs.size:=by
      simp only[cs',List.size_toArray];rw[jf _ _ _ (by simpa[hvl]using hle)];simp
     refine znu (w':=w.setRow b cs') hrun ?_;refine h.writeB (Wr.row w b cs') hw _ rfl fun M pt ow S hg hs=>?_
     obtain⟨b',cap',cs2,hxe',how,hcs2,hc1,hc2,hc3,hc4⟩:=key hsz hq M pt ow S hg hs;rw[hxe]at hxe';simp at hxe';subst hxe';rw[hcs]at hcs2;simp at hcs2;subst hcs2;have hptj:pt j=none:=hg.ptow how;rw[hl];refine⟨by simp[bl,hptj,how],rfl,rfl,rfl,rfl,fun V' hV=>⟨_,how,.inr ⟨b,cap',cs',OC,setRow_heap w b cs cs' et (0,0) hcs,by simpa using hc1,hc2,by rw[hcs'l];exact hc3,?_⟩⟩,fun l e=>by cases e⟩;intro i z hz jj u hu;have hjj:jj<k.size:=by have:=(List.getElem?_eq_some_iff.1 hu).1;rwa [qn]at this
     have hlfy:=hlf M pt ow S hg hs;have hcl':q*k.size+k.size<=cs.toList.length:=by simpa using hle
     have hgetc:∀n:Nat,cs'[n]? =(zar cs.toList (q*k.size) vs)[n]? :=fun n=>by simp[cs']
     by_cases hiq:i=q
     .subst hiq;rw[List.getElem?_set_self hq]at hz;cases hz
      have hyl:jj<vs.length:=O;refine⟨vs[jj],?_,(hlfy.2 jj u _ hu (q2 hyl)).mono hV⟩;rw[hgetc];unfold zar;rw[q1,List.getElem?_append_right OE];have:i*k.size+jj-(cs.toList.take (i*k.size)).length =jj:=by simp at hcl'⊢;omega
      rw[this,List.getElem?_append_left hyl];exact q2 hyl
     .rw[List.getElem?_set_ne (fun h=>hiq h.symm)]at hz;obtain⟨v,hv,hlv⟩:=hc4 i z hz jj u hu;refine⟨v,?_,hlv.mono hV⟩;rw[hgetc];have hv':cs.toList[i*k.size+jj]? =some v:=by simpa using hv
      unfold zar;by_cases hlt:i<q
      .have hle2:i*k.size+jj<q*k.size:=by
        calc i*k.size+jj<i*k.size+k.size:=by omega
         _=(i+1)*k.size:=by rw[qA]
         _<=q*k.size:=q0 _ O
       rw[q1,List.getElem?_append_left (by simp at hcl'⊢;omega),q3,Z6 hle2];exact hv'
      .have hge:q*k.size+k.size<=i*k.size+jj:=by
        calc q*k.size+k.size=(q+1)*k.size:=by rw[qA]
         _<=i*k.size:=q0 _ O
         _<=_:=Nat.le_add_right _ _
       have hl2:(cs.toList.take (q*k.size)++vs).length =q*k.size+k.size:=by
        rw[List.length_append,hvl,List.length_take];omega
       rw[List.getElem?_append_right (by rw[hl2];exact hge),hl2,q4,hvl];rw[show q*k.size+k.size+(i*k.size+jj-(q*k.size+k.size))=i*k.size+jj from O];exact hv'
    have fit:∀ {cap:Nat}{cs:Array Value},q<xs.length->xs.length<=cap->cs.size=cap*k.size->q*k.size+k.size<=cs.size:=fun hq h1 h2=>by
     rw[h2]
     calc q*k.size+k.size=(q+1)*k.size:=by rw[qA]
      _<=_:=q0 _ O
    split at he
    .rename_i e1 e2;have e1:=(zd _ _).1 e1;have e2:=(zd _ _).1 e2
     match off,key,core,he with
     |0,key,core,he=>
     obtain⟨yv,⟨hq,hE⟩,_,hlf⟩:=uu he;obtain⟨b,cap,cs,hxe,how,hcs,hc1,hc2,hc3,hc4⟩:=key e1 hq M pt ow S hg hs;have hf:=fit hq hc1 hc3;have hvl:(a.eval y).cells.toList.length =k.size:=by simpa[hlen,hsz]using e2
     refine core e1 hq yv hE (a.eval y).cells.toList hvl (fun M pt ow S hg hs=>hlf ⟨zo w M,pt,ow⟩ _ ((zc (hs pt ow (Agr.refl _ _ _)).1 y).cells h1)) b cs hcs hxe hf ?_;have hxe:a.eval x=.pointer (some ⟨b,q*k.size,none⟩):=hxe;simp only[execOp,ho,Instr.storeAt,hxe,Instr.sureAddr,qD,qE,qC,zoj hinf hcs hlen (off:=q*k.size) (by simp at hvl;omega) hone]
    .rename_i e1 e2;have e1:=(zd _ _).1 e1;obtain⟨hq,he⟩:=he;have hxq:xs[q]? =some xs[q]:=by simp[hq]
     obtain⟨hle,he⟩:=zcl _ _ _ _ (he _ hxq);rw[qn]at hle;obtain⟨yv,hE,_,hlf⟩:=uu he;obtain⟨b,cap,cs,hxe,how,hcs,hc1,hc2,hc3,hc4⟩:=key e1 hq M pt ow S hg hs;have hf:=fit hq hc1 hc3;have hvl:((cs.toList.drop (q*k.size)).take k.size).length =k.size:=OE;have hel:(zm Y.sl y).cs.length =(a.eval y).cells.toList.length :=hcells.length;have hly:zar cs.toList (q*k.size+off) (a.eval y).cells.toList =zar cs.toList (q*k.size) (zar ((cs.toList.drop (q*k.size)).take k.size) off (a.eval y).cells.toList):=by
      exact qa1 _ _ _ _ _ O (by simpa using hf)
     refine core e1 hq yv hE (zar ((cs.toList.drop (q*k.size)).take k.size) off (a.eval y).cells.toList) (by rw[jf _ _ _ (by rw[hvl];omega)];exact hvl) (fun M pt ow S hg hs=>?_) b cs hcs hxe hf ?_
     .obtain⟨b',cap',cs2,hxe',how,hcs2,hc1,hc2,hc3,hc4⟩:=key e1 hq M pt ow S hg hs;rw[hxe]at hxe';simp at hxe';subst hxe';rw[hcs]at hcs2;simp at hcs2;subst hcs2;refine hlf ⟨zo w M,pt,ow⟩ _ (Rs.lay (Rs.of_get (by rw[hvl,qn]) fun r u v hu hv=>?_) ((zc (hs pt ow (Agr.refl _ _ _)).1 y).cells h1) off);obtain⟨v',hv',hlf⟩:=hc4 q _ hxq r u hu;have hr:r<k.size:=by have:=(List.getElem?_eq_some_iff.1 hu).1;rwa [qn]at this
      rw[q3,Z6 hr,q4]at hv;have:cs[q*k.size+r]? =some v:=by simpa using hv
      rw[hv']at this;cases this
      exact R.of_leaf hlf
     .rw[<-hly];simp only[execOp,ho,Instr.storeAt,hxe,Instr.sureAddr,qD,qE,qC,zoj hinf hcs hlen (off:=q*k.size+off) (by simp at hel;omega) hone]
    .exact he.elim
   .exact he.elim
  .exact he.elim
 .exact he.elim
end
