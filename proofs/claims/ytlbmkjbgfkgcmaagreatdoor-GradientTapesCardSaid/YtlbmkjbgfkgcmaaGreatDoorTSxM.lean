/- append; an empty slice. -/
import Derived.Test.YtlbmkjbgfkgcmaaGreatDoorTSxL
set_option linter.all false
open Array renaming getElem?_append_left->qC,size_append->qD
open List renaming getElem?_eq_getElem->q0,getElem?_eq_some_iff->q2,getElem?_eq_none->q3,length_append->qA,size_toArray->qB,length_pos_iff->qF,ext_getElem?->qG,getElem?_toArray->qI,length_replicate->qJ,length_take->qK,replicate->qL,toArray->qM
open Nat renaming le_of_ble_eq_true->q1,le_refl->q4,mul_le_mul_right->qE,add_mul->qH,ble->qN
open Go.Builtin renaming zeroCells->qO,append_->qP,firstCells->qQ
namespace Go.Sx
open Go
section
variable {P:Program} {T:Tab} {F:Wf} {C:Con} {c:Ctx} {o:Oper} {Y:St} {a:Act} {w:World} {E:AV->List Blk->Prop} {ids:List Nat} {bs:List Blk} {dst:Nat}
theorem zls{k k':Elt}(h:kEq k k'=true):k=k':=by
 cases k<;>cases k'<;>simp[kEq]at h<;>rfl
theorem zk2{k:Elt}{x:AV}{K:List k.T->Prop}(h:zz5 k x K):∃ys,x=.sl k ys/\K ys:=by
 cases x with
 |sl k' ys=>cases k<;>cases k'<;>simp only[zz5]at h<;>exact⟨_,rfl,h⟩
 | _=>cases k<;>simp[zz5]at h
theorem ym{t e:TypeId}{ty:TypeId}{i:TypeInfo}(ht:P.underlying t=some (.slice e))(hi:P.info? e=some i)(base ao:Option Addr)(n cap m:Nat)(h:n<=cap):
 (qP #[t,t] ty #[.slice base n cap,.slice ao 0 m]).run P w=.ok (.slice base n cap) w:=by
 have hf:(qQ i.size 0 (.slice ao 0 m)).run P w=.ok #[] w:=by
  cases ao<;>simp[qQ,loadCells,loadCellsFrom]
 cases base<;>simp[qP,zaj ht,zcu hi,Builtin.lenOf,h,hf,storeCells]
theorem zqc(hT:TabOK P T)(hdlo:qN (ve o) 99999=true)(h:Rel c Y a w){cl:Call}(ho:o.op=.call cl)(hcl:cl.callee=.builtin .append)(he:qo T C (.call cl) (ve o) (zm Y.sl) (nd T o Y) (qj Y.hp (nd T o Y)) E):Snd P F T c o Y a w E:=by
 have hw:wr o.op=true:=by simp[wr,ho,hcl]
 obtain⟨M,pt,ow,S,hg,hs,hr⟩:=h.own;simp only[qo,hcl]at he;split at he
 .rename_i s x t t' ha ht;split at he
  .rename_i htt;have htt:=(zd _ _).1 htt;subst htt;obtain⟨i,hmi,he⟩:=qu _ _ _ he;have hi:=hT.ti _ _ hmi;have ha':cl.args= #[s,x]:=by have:=congrArg qM ha;simpa using this
   have ht':cl.argTypes= #[t,t]:=by have:=congrArg qM ht;simpa using this
   have hn:nd T o Y=(match zm Y.sl s with|.own id=> [id,alt id (ve o)]| _=> [ve o]):=by simp only[nd,ho,xt,hcl,ha];rfl
   have hrun:∀v w',(qP #[t,t] o.type #[a.eval s,a.eval x]).run P w=.ok v w'->(execOp a.eval o).run P w=.ok (.value v) w':=fun v w' hv=>by
    simp[execOp,ho,resolve,hcl,ha',ht',invoke,builtin,hv]
   unfold zxr at he;split at he
   .rename_i sz fs e esz len k0 ik z by_ eq;obtain⟨hu,inf,hinf,hsz⟩:=hi.slice rfl;simp only at hu hinf hsz;obtain⟨j,hmj,he⟩:=qu _ _ _ he;have hj:=hT.ti _ _ hmj;obtain⟨inf',zv,hinf',hq1,hq2,hz,hq3,hq4⟩:=hj.inf;rw[hinf]at hinf';cases hinf'
    split at he
    .rename_i cls' sz' fs' e2 esz' len' k ik' z' bytes' eq';split at he
     .rename_i he1 he2 he3;have he1:=(zd _ _).1 he1;have he2:=(zd _ _).1 he2;have he3:=q1 he3;have hsize:inf.size=k.size:=by rw[hsz,he1]
      have hzs:zv.cells.size=k.size:=by rw[hq3,<-hq1,hsize]
      simp only at hq2;have hpos:=Elt.size_pos k;have hx0:=zc hr x;have hs0:=zc hr s;split at he
      .rename_i hsn hb0;obtain⟨ys,hxe,hby,hE⟩:=zk2 he;rw[hsn]at hs0;simp only[R]at hs0;rw[hxe]at hx0;simp only[R]at hx0;have hn':nd T o Y= [ve o]:=by rw[hn,hsn]
       rw[hn',jb]at hb0;simp at hb0;cases hv:a.eval x<;>rw[hv]at hx0<;>(try (cases hx0;done))
       rename_i ao n cap;by_cases hys:ys= []
       .subst hys;have hn0:n=0:=by cases hx0;simpa using ‹n=_›
        subst hn0;refine⟨_,_,hE,fun Q=>ur (hrun (.slice none 0 0) w (by rw[hs0,hv];exact ym hu hinf none ao 0 0 cap (q4 _))) ?_⟩;rw[hn'];refine h.buf hb0 (.inl (by have:=q1 hdlo;omega)) none OC e k [] (.slice none 0 0) rfl rfl rfl (q4 _) _ (by simp[nxt,hw,qq,ze0]) rfl fun M pt ow S _ _=>⟨fun _ _ _=>rfl,fun _ _=>.inl ⟨rfl,rfl⟩,none,0,0,rfl,OC⟩
       .obtain⟨hnl,b,p,hao,vals,hvl,hvc,hv1,_⟩:=zbh hx0 hys;subst hnl;subst hao;have hylen:0<ys.length:=qF.2 hys;have hle:ys.length<=maxLen:=by cases hx0;omega
        have hr':=run_append_nil (P:=P) w t o.type e inf zv hu hinf hz ⟨b,p,none⟩ ys.length cap vals (by rw[hvl,hsize]) (fun j v hj=>by rw[wt];exact hvc j v hj) hylen
         (by unfold maxLen at hle;omega) (by rw[hq2];omega)
        refine⟨_,_,hE,fun Q=>ur (hrun _ _ (by rw[hs0,hv];exact hr')) ?_⟩;rw[hn'];have hcap:=grownCap_ge w ys.length 0 e;have hcm:=grownCap_le_maxLen w ys.length 0 e hle;have hex:Ext w (w.drew.alloc (.cells (vals.toArray++qO zv.cells (grownCap w ys.length 0 e-ys.length)) e)):=by
         have:=Ext.alloc w.drew (.cells (vals.toArray++qO zv.cells (grownCap w ys.length 0 e-ys.length)) e);exact⟨this.os,this.tape,this.output,this.size,this.block⟩
        refine h.buf hb0 (.inl (by have:=q1 hdlo;omega)) none OC e k ys _ hex.os hex.tape hex.output hex.size _ (by simp[nxt,hw,qq,ze0]) rfl fun M pt ow S hg hs=>?_
        refine⟨fun b' hb' _=>hex.block b' hb',fun M' hM'=>?_,_,_,_,rfl,fun p hp=>?_⟩
        .have hx1:=zc (hs pt ow (Agr.refl _ _ _)).1 x;rw[hxe,hv]at hx1;simp only[R]at hx1;obtain⟨_,b2,p2,hao2,vals2,hvl2,hvc2,_,hlf2⟩:=zbh hx1 hys;have:vals2=vals:=by
          simp at hao2;obtain⟨rfl,rfl⟩:=hao2;refine qG fun q=>?_
          by_cases hq:q<ys.length*k.size
          .have h1:=hvc q vals[q] (q0 O);have h2:=hvc2 q vals2[q] (q0 O);rw[h1]at h2;rw[q0 O,q0 O];simpa using h2.symm
          .rw[q3 O,q3 O]
         subst this;have hV:∀b o,zo w M b o->zo (w.drew.alloc (.cells (vals2.toArray++qO zv.cells (grownCap w ys.length 0 e-ys.length)) e)) M' b o:=
          zy fun b o hm hb=>⟨fun h'=>(hM' b h').elim hm fun h=>by have:=zj hb;omega,hex.get hb⟩
         refine .inr ⟨w.heap.size,_,_,rfl,heap_alloc_new w.drew _,hcap,hcm,?_,fun i z hz q u hu=>?_⟩
         .rw[qD,qB,size_zeroCells,hzs,hvl2,<-qH];congr 1;omega
         .obtain⟨v,hv,hlf⟩:=hlf2 i z hz q u hu;have hlt:i*k.size+q<vals2.length:=(q2.1 hv).1;refine⟨v,?_,hlf.mono hV⟩;rw[qC (by simpa using hlt)];simpa using hv
        .simp at hp;subst hp;exact⟨.inr (q4 _),OC⟩
      .rename_i id e' k' xs hsn hb0;split at he
       .rename_i hee hkk hlo;have hlo:=q1 hlo;have hee:=(zd _ _).1 hee;have hkk:=zls hkk;subst hee;subst hkk;obtain⟨ys,hxe,hby,hE⟩:=zk2 he;rw[hsn]at hs0;simp only[R]at hs0;rw[hxe]at hx0;simp only[R]at hx0;have hn':nd T o Y= [id,alt id (ve o)]:=by rw[hn,hsn]
        have halt:alt id (ve o)<=999999\/(1500000<=alt id (ve o)/\alt id (ve o)<=1999998):=by
         have:=q1 hdlo;unfold alt;split
         .omega
         .split<;>omega
        have halt2:id<1000000\/1500000<=alt id (ve o):=by
         unfold alt;split
         .rename_i e;have:=Nat.eq_of_beq_eq_true e;have:=q1 hdlo;omega
         .split
          .rename_i e;have:=q1 e;omega
          .omega
        rw[hn']at hb0;simp only[qj]at hb0;simp at hb0;obtain⟨hbid,hbd⟩:=hb0;cases hv:a.eval x<;>rw[hv]at hx0<;>(try (cases hx0;done))
        rename_i ao n cap;obtain⟨hdr,how,hbuf⟩:=hg.buf id e k xs hbid;have hsv:=hs0.2 hdr how;have hdr_one:∀M pt ow S,Good c M pt ow S Y.hp w->zdj Y a w M pt ow->ow id=some (a.eval s)/\zae w (zo w M) e k xs (a.eval s):=by
         intro M pt ow S hg hs;obtain⟨hdr',how',hbuf'⟩:=hg.buf id e k xs hbid;have h1:=zc (hs pt ow (Agr.refl _ _ _)).1 s;rw[hsn]at h1;simp only[R]at h1;rw[h1.2 hdr' how'];exact⟨how',hbuf'⟩
        have hpb:(nxt o [id,alt id (ve o)] Y (.own (alt id (ve o))) [.dead,.buf e k (xs++ys)]).hp =ze0 Y.hp (some id) (alt id (ve o)) (.buf e k (xs++ys)):=by simp[nxt,hw,qq,ze0]
        have hold:∀i,some id=some i->(i<1000000\/1500000<=alt id (ve o))/\∃e k xs,hget Y.hp i=.buf e k xs:=fun i hi=>by cases hi;exact⟨halt2,_,_,_,hbid⟩
        rcases hbuf with ⟨hh,hxs⟩|⟨b0,cap0,cs0,hh,hcs0,hc1,hc2,hc3,hc4⟩
        .
         subst hxs;rw[hh]at hsv;by_cases hys:ys= []
         .subst hys;have hn0:n=0:=by cases hx0;simpa using ‹n=_›
          subst hn0;refine⟨_,_,hE,fun Q=>ur (hrun (.slice none 0 0) w (by rw[hsv,hv];exact ym hu hinf none ao 0 0 cap (q4 _))) ?_⟩;rw[hn'];refine h.buf hbd halt (some id) hold e k ([]++ []) (.slice none 0 0) rfl rfl rfl (q4 _) _ hpb rfl fun M pt ow S _ _=>⟨fun _ _ _=>rfl,fun _ _=>.inl ⟨rfl,rfl⟩,none,0,0,rfl,OC⟩
         .obtain⟨hnl,b,p,hao,vals,hvl,hvc,hv1,_⟩:=zbh hx0 hys;subst hnl;subst hao;have hylen:0<ys.length:=qF.2 hys;have hle:ys.length<=maxLen:=by cases hx0;omega
          have hr':=run_append_nil (P:=P) w t o.type e inf zv hu hinf hz ⟨b,p,none⟩ ys.length cap vals (by rw[hvl,hsize]) (fun j v hj=>by rw[wt];exact hvc j v hj) hylen
           (by unfold maxLen at hle;omega) (by rw[hq2];simp at hby;omega)
          refine⟨_,_,hE,fun Q=>ur (hrun _ _ (by rw[hsv,hv];exact hr')) ?_⟩;rw[hn'];have hcap:=grownCap_ge w ys.length 0 e;have hcm:=grownCap_le_maxLen w ys.length 0 e hle;have hex:Ext w (w.drew.alloc (.cells (vals.toArray++qO zv.cells (grownCap w ys.length 0 e-ys.length)) e)):=by
           have:=Ext.alloc w.drew (.cells (vals.toArray++qO zv.cells (grownCap w ys.length 0 e-ys.length)) e);exact⟨this.os,this.tape,this.output,this.size,this.block⟩
          refine h.buf hbd halt (some id) hold e k ([]++ys) _ hex.os hex.tape hex.output hex.size _ hpb rfl fun M pt ow S hg hs=>?_
          refine⟨fun b' hb' _=>hex.block b' hb',fun M' hM'=>?_,_,_,_,rfl,fun p hp=>?_⟩
          .have hx1:=zc (hs pt ow (Agr.refl _ _ _)).1 x;rw[hxe,hv]at hx1;simp only[R]at hx1;obtain⟨_,b2,p2,hao2,vals2,hvl2,hvc2,_,hlf2⟩:=zbh hx1 hys;have:vals2=vals:=by
            simp at hao2;obtain⟨rfl,rfl⟩:=hao2;refine qG fun q=>?_
            by_cases hq:q<ys.length*k.size
            .have h1:=hvc q vals[q] (q0 O);have h2:=hvc2 q vals2[q] (q0 O);rw[h1]at h2;rw[q0 O,q0 O];simpa using h2.symm
            .rw[q3 O,q3 O]
           subst this;have hV:∀b o,zo w M b o->zo (w.drew.alloc (.cells (vals2.toArray++qO zv.cells (grownCap w ys.length 0 e-ys.length)) e)) M' b o:=
            zy fun b o hm hb=>⟨fun h'=>(hM' b h').elim hm fun h=>by have:=zj hb;omega,hex.get hb⟩
           refine .inr ⟨w.heap.size,_,_,rfl,heap_alloc_new w.drew _,hcap,hcm,?_,fun i z hz q u hu=>?_⟩
           .rw[qD,qB,size_zeroCells,hzs,hvl2,<-qH];congr 1;omega
           .obtain⟨v,hv,hlf⟩:=hlf2 i z hz q u hu;have hlt:i*k.size+q<vals2.length:=(q2.1 hv).1;refine⟨v,?_,hlf.mono hV⟩;rw[qC (by simpa using hlt)];simpa using hv
          .simp at hp;subst hp;exact⟨.inr (q4 _),OC⟩
        .
         rw[hh]at hsv;by_cases hys:ys= []
         .subst hys;have hn0:n=0:=by cases hx0;simpa using ‹n=_›
          subst hn0;refine⟨_,_,hE,fun Q=>ur (hrun _ w (by rw[hsv,hv];exact ym hu hinf _ ao xs.length cap0 cap hc1)) ?_⟩;rw[hn'];refine h.buf hbd halt (some id) hold e k (xs++ []) _ rfl rfl rfl (q4 _) _ hpb rfl fun M pt ow S hg hs=>?_
          obtain⟨how1,hbuf1⟩:=hdr_one M pt ow S hg hs;rw[hsv]at how1 hbuf1;refine⟨fun _ _ _=>rfl,fun M' hM'=>?_,_,_,_,rfl,fun p hp=>?_⟩
          .rw[List.append_nil];exact hbuf1.mono (zy fun b o hm hb=>⟨fun h'=>(hM' b h').elim hm fun h=>by have:=zj hb;omega,hb⟩) fun _ _ _ _ h=>h
          .simp at hp;subst hp;exact⟨.inl (by simp[zdu,how1]),zj hcs0⟩
         .obtain⟨hnl,b,p,hao,vals,hvl,hvc,hv1,_⟩:=zbh hx0 hys;subst hnl;subst hao;have hylen:0<ys.length:=qF.2 hys;have hpos:0<bytes':=O;have inst:∀M pt ow S,Good c M pt ow S Y.hp w->zdj Y a w M pt ow->ow id=some (.slice (some ⟨b0,0,none⟩) xs.length cap0)/\
           (∀(i:Nat)(x:k.T),xs[i]? =some x->∀(j:Nat)(u:AV),(k.cells x)[j]? =some u->∃v,(cs0.toList.take (xs.length*k.size))[i*k.size+j]? =some v/\Leaf (zo w M) u v)/\
           (∀(i:Nat)(x:k.T),ys[i]? =some x->∀(j:Nat)(u:AV),(k.cells x)[j]? =some u->∃v,vals[i*k.size+j]? =some v/\Leaf (zo w M) u v):=by
           intro M pt ow S hg hs;obtain⟨how1,hbuf1⟩:=hdr_one M pt ow S hg hs;rw[hsv]at how1 hbuf1;obtain⟨vals0,hvl0,hlf0,hc0⟩:=zc8 hbuf1;have hx1:=zc (hs pt ow (Agr.refl _ _ _)).1 x;rw[hxe,hv]at hx1;simp only[R]at hx1;obtain⟨_,b2,p2,hao2,vals2,hvl2,hvc2,_,hlf2⟩:=zbh hx1 hys;have:vals2=vals:=by
            simp at hao2;obtain⟨rfl,rfl⟩:=hao2;refine qG fun q=>?_
            by_cases hq:q<ys.length*k.size
            .have h1:=hvc q vals[q] (q0 O);have h2:=hvc2 q vals2[q] (q0 O);rw[h1]at h2;rw[q0 O,q0 O];simpa using h2.symm
            .rw[q3 O,q3 O]
           subst this;refine⟨how1,?_,hlf2⟩;rcases hc0 with ⟨hc0,_⟩|⟨b3,cap3,cs3,hh3,hcs3,_,_,_,htk⟩
           .simp at hc0
           .simp at hh3;obtain⟨rfl,rfl⟩:=hh3;rw[hcs0]at hcs3;simp at hcs3;subst hcs3;rw[htk];exact hlf0
          have hvlo:(cs0.toList.take (xs.length*k.size)).length =xs.length*k.size:=by
           rw[qK];have:xs.length*k.size<=cs0.toList.length:=by simp;rw[hc3];exact qE _ hc1
           omega
          have hsum:xs.length+ys.length<=maxLen\/True:=.inr trivial;by_cases hroom:xs.length+ys.length<=cap0
          .have hfit:xs.length*inf.size+vals.length<=cs0.size:=by
            rw[hvl,hsize,hc3,<-qH];exact qE _ hroom
           have hr':=run_append_room (P:=P) w t o.type e inf hu hinf b0 xs.length cap0 cs0 hcs0 ⟨b,p,none⟩ ys.length cap vals (by rw[hvl,hsize]) (fun j v hj=>by rw[wt];exact hvc j v hj) hv1 hroom hfit;refine⟨_,_,hE,fun Q=>ur (hrun _ _ (by rw[hsv,hv];exact hr')) ?_⟩;rw[hn'];refine h.buf (w':=w.setRow b0 (cs0.toList.take (xs.length*inf.size)++vals++cs0.toList.drop (xs.length*inf.size+vals.length)).toArray) hbd halt (some id) hold e k (xs++ys) _ rfl rfl rfl OC _ hpb rfl fun M pt ow S hg hs=>?_
           obtain⟨how1,hl1,hl2⟩:=inst M pt ow S hg hs;have hro:zdu ow (some id)=some b0:=by simp[zdu,how1]
           have hMb0:M b0:=hg.mt id b0 (by
            have:pt id=none:=hg.ptow how1;simp[bl,this,how1])
           refine⟨fun b' _ hb'=>setRow_other w b0 b' _ (fun e'=>hb' (by rw[hro,e'])),fun M' hM'=>?_,_,_,_,rfl,fun p hp=>?_⟩
           .have hV:∀b o,zo w M b o->zo (w.setRow b0 (cs0.toList.take (xs.length*inf.size)++vals++cs0.toList.drop (xs.length*inf.size+vals.length)).toArray) M' b o:=
             zy fun b o hm hb=>⟨fun h'=>(hM' b h').elim hm fun h=>by have:=zj hb;omega,by rw[setRow_other w b0 b _ (fun e'=>hm (e'▸hMb0))];exact hb⟩
            refine .inr ⟨b0,cap0,_,by rw[qA],setRow_heap w b0 cs0 _ e _ hcs0,by rw[qA];exact hroom,hc2,?_,fun i z hz q u hu=>?_⟩
            .simp only[qB,qA,qK,List.length_drop,Array.length_toList];rw[<-hc3];omega
            .obtain⟨v,hv,hlf⟩:=zaz hV hvlo hl1 hl2 i z hz q u hu;refine⟨v,?_,hlf⟩;have hlt:=(q2.1 hv).1;rw[hsize];rw[qI,List.getElem?_append_left hlt];exact hv
           .simp at hp;subst hp;exact⟨.inl hro,by simpa using zj hcs0⟩
          .have hle63:xs.length+ys.length<=maxLen:=by
            unfold maxLen;have:(xs.length+ys.length)*1<=(xs.length+ys.length)*bytes':=Nat.mul_le_mul_left _ hpos;omega
           have hr':=run_append_grow (P:=P) w t o.type e inf zv hu hinf hz ⟨b0,0,none⟩ xs.length cap0 (cs0.toList.take (xs.length*k.size)) (by rw[hvlo,hsize])
            (fun j v hj=>by
              rw[wt,Nat.zero_add];rw[List.getElem?_take]at hj;split at hj
              .simp only[World.cell?,hcs0];simpa using hj
              .simp at hj) ⟨b,p,none⟩ ys.length cap vals (by rw[hvl,hsize]) (fun j v hj=>by rw[wt];exact hvc j v hj) O (by unfold maxLen at hle63;omega) (growslice_fits O (by rw[hq2];exact hby))
           refine⟨_,_,hE,fun Q=>ur (hrun _ _ (by rw[hsv,hv];exact hr')) ?_⟩;rw[hn'];have hcap:=grownCap_ge w (xs.length+ys.length) cap0 e;have hcm:=grownCap_le_maxLen w (xs.length+ys.length) cap0 e hle63;have hex:Ext w (w.drew.alloc (.cells ((cs0.toList.take (xs.length*k.size)).toArray ++vals.toArray++qO zv.cells (grownCap w (xs.length+ys.length) cap0 e-(xs.length+ys.length))) e)):=by
            have:=Ext.alloc w.drew (.cells ((cs0.toList.take (xs.length*k.size)).toArray ++vals.toArray++qO zv.cells (grownCap w (xs.length+ys.length) cap0 e-(xs.length+ys.length))) e);exact⟨this.os,this.tape,this.output,this.size,this.block⟩
           refine h.buf hbd halt (some id) hold e k (xs++ys) _ hex.os hex.tape hex.output hex.size _ hpb rfl fun M pt ow S hg hs=>?_
           obtain⟨how1,hl1,hl2⟩:=inst M pt ow S hg hs;refine⟨fun b' hb' _=>hex.block b' hb',fun M' hM'=>?_,_,_,_,rfl,fun p hp=>?_⟩
           .have hV:∀b o,zo w M b o->zo (w.drew.alloc (.cells ((cs0.toList.take (xs.length*k.size)).toArray ++vals.toArray++qO zv.cells (grownCap w (xs.length+ys.length) cap0 e-(xs.length+ys.length))) e)) M' b o:=
             zy fun b o hm hb=>⟨fun h'=>(hM' b h').elim hm fun h=>by have:=zj hb;omega,hex.get hb⟩
            refine .inr ⟨w.heap.size,_,_,by rw[qA],heap_alloc_new w.drew _,by rw[qA];exact hcap,hcm,?_,fun i z hz q u hu=>?_⟩
            .rw[qD,qD,qB,qB,size_zeroCells,hzs,hvl,hvlo,<-qH,<-qH];congr 1;omega
            .obtain⟨v,hv,hlf⟩:=zaz hV hvlo hl1 hl2 i z hz q u hu;refine⟨v,?_,hlf⟩;have hlt:=(q2.1 hv).1;rw[qC (by simpa using hlt)];rw[List.append_toArray,qI];exact hv
           .simp at hp;subst hp;exact⟨.inr (q4 _),OC⟩
       .exact he.elim
      .exact he.elim
     .exact he.elim
    .exact he.elim
   .exact he.elim
  .exact he.elim
 .exact he.elim
theorem zrx(hT:TabOK P T)(hlo:qN (ve o) 99999=true)(h:Rel c Y a w){t:TypeId}{parts:Array (Nat×Operand)}(ho:o.op=.buildSlice t 0 parts)
 (he:qo T C (.buildSlice t 0 parts) (ve o) (zm Y.sl) (nd T o Y) (qj Y.hp (nd T o Y)) E):Snd P F T c o Y a w E:=by
 have hw:wr o.op=true:=by simp[wr,ho]
 have hn:nd T o Y= [ve o]:=by simp[nd,ho,xt]
 rw[hn,jb]at he;simp only[qo]at he;obtain⟨i,hmem,he⟩:=qu _ _ _ he;have hi:=hT.ti _ _ hmem;split at he
 .rename_i sz fs e esz len k0 ik z by_ eq;obtain⟨hu,inf,hinf,hsz⟩:=hi.slice rfl;simp only at hu hinf hsz;obtain⟨j,hmj,he⟩:=qu _ _ _ he;split at he
  .rename_i cls' sz' fs' e2 esz' len' k ik' z' bytes' eq';split at he
   .split at he
    .rename_i hf hp0;simp at hf;have hp0:parts= #[]:=by simpa using hp0
     refine⟨_,_,he,fun Q=>?_⟩;rw[hn];refine ur (v:=.slice (some ⟨w.heap.size,0,none⟩) 0 0) (w':=w.alloc (.cells #[] e)) ?_ (h.buf (w':=w.alloc (.cells #[] e)) hf (by have:=q1 hlo;omega) none OC e k [] _ rfl rfl rfl OC (nxt o [ve o] Y (.own (ve o)) [.buf e k []]) (by simp[nxt,hw,qq,ze0]) rfl fun M pt ow S hg hs=>?_)
     .subst hp0;simp[execOp,ho,Instr.buildSlice,zaj hu,zcu hinf,newRow,newObj,Sem.run,Instr.fill];exact congrArg (fun x=>w.alloc (.cells x e)) (Array.eq_empty_of_size_eq_zero OC)
     .have hnew:(w.alloc (.cells #[] e)).heap[w.heap.size]? =some (.cells #[] e (0,0)):=by
       show(w.heap.push _)[w.heap.size]? =_;simp
      refine⟨fun b' hb' _=>(Ext.alloc w _).block b' hb',fun M' _=>.inr ⟨w.heap.size,0,#[],rfl,hnew,q4 _,OC,OC,OC⟩,_,_,_,rfl,fun p hp=>?_⟩;simp at hp;subst hp;exact⟨.inr (q4 _),OC⟩
    .exact he.elim
   .exact he.elim
  .exact he.elim
 .exact he.elim
theorem zp9(hT:TabOK P T)(hlo:qN (ve o) 99999=true)(h:Rel c Y a w){t:TypeId}{l c':Operand}(ho:o.op=.makeSlice t l c')
 (he:qo T C (.makeSlice t l c') (ve o) (zm Y.sl) (nd T o Y) (qj Y.hp (nd T o Y)) E):Snd P F T c o Y a w E:=by
 have hw:wr o.op=true:=by simp[wr,ho]
 have hn:nd T o Y= [ve o]:=by simp[nd,ho,xt]
 rw[hn,jb]at he;simp only[qo]at he;obtain⟨i,hmem,he⟩:=qu _ _ _ he;have hi:=hT.ti _ _ hmem;split at he
 .rename_i sz fs e esz len k0 ik z by_ eq;obtain⟨hu,inf,hinf,hsz⟩:=hi.slice rfl;simp only at hu hinf hsz;obtain⟨j,hmj,he⟩:=qu _ _ _ he;have hj:=hT.ti _ _ hmj;split at he
  .rename_i cls' sz' fs' e2 esz' len' k ik' z' bytes' eq';split at he
   .rename_i hq1 hq2 hq3 hl hc hf;rename_i kn n km m;simp at hf;obtain⟨y,⟨⟨h0,hnm,hby⟩,he⟩,hone,hy⟩:=uu he;obtain⟨inf',zv,hinf',hs',hb',hz',hzs',hzr⟩:=hj.inf;simp only at hs' hb' hz' hzs' hzr;rw[hinf]at hinf';cases hinf'
    have hq2:=(zd _ _).1 hq2;have hby1:1<=bytes':=q1 hq3;obtain⟨M0,pt0,ow0,S0,hg0,hs0,hr0⟩:=h.own;have hel:a.eval l=.int kn n:=by have:=zc hr0 l;rw[hl]at this;exact this
    have hec:a.eval c'=.int km m:=by have:=zc hr0 c';rw[hc]at this;exact this
    have hm0:0<=m:=O;have hm1:m<=140737488355328:=by
     have h1:m*1<=m*(bytes':Int):=Int.mul_le_mul_of_nonneg_left O hm0;omega
    have hks:inf.size=k.size:=O;have hzk:zv.cells.size=k.size:=O;have hpos:=Elt.size_pos k;refine⟨_,_,he,fun Q=>?_⟩;rw[hn];refine ur (v:=.slice (some ⟨w.heap.size,0,none⟩) n.toNat m.toNat) (w':=w.alloc (.cells (madeCells zv.cells (m.toNat*inf.size)) e)) ?_
     (h.buf (w':=w.alloc (.cells (madeCells zv.cells (m.toNat*inf.size)) e)) hf (by have:=q1 hlo;omega) none OC e k (qL n.toNat y) _ rfl rfl rfl OC (nxt o [ve o] Y (.own (ve o)) [.buf e k (qL n.toNat y)]) (by simp[nxt,hw,qq,ze0]) rfl fun M pt ow S hg hs=>?_)
    .have hrun:=run_make (P:=P) w t e inf zv hu hinf hz' kn km n m h0 hnm (by rw[hb',Int.mul_comm];omega) O;simp only[execOp,ho,hel,hec];simp[hrun]
    .have hnew:(w.alloc (.cells (madeCells zv.cells (m.toNat*inf.size)) e)).heap[w.heap.size]? =some (.cells (madeCells zv.cells (m.toNat*inf.size)) e (0,0)):=by
      show(w.heap.push _)[w.heap.size]? =_;simp
     have hlf:∀V,jz V (k.cells y) zv.cells.toList:=fun V=>hy _ _ (hzr ⟨V,fun _=>none,fun _=>none⟩)
     refine⟨fun b' hb' _=>(Ext.alloc w _).block b' hb',fun M' _=>.inr ⟨w.heap.size,m.toNat,_,by rw[qJ],hnew,by rw[qJ];omega,by unfold maxLen;omega,by rw[size_madeCells,hks],fun q x hx j u hu=>?_⟩,_,_,_,rfl,fun p hp=>?_⟩
     .have hq:q<n.toNat:=by have:=(q2.1 hx).1;simpa using this
      have hxy:x=y:=by
       rw[List.getElem?_replicate,Z6 hq]at hx;exact(Option.some.inj hx).symm
      subst hxy;have hj:j<k.size:=by rw[<-qn k x];exact(q2.1 hu).1
      have hlt:q*k.size+j<m.toNat*inf.size:=by
       rw[hks];have h1:(q+1)*k.size<=m.toNat*k.size:=qE _ O;rw[Nat.succ_mul]at h1;omega
      have hmod:(q*k.size+j) % k.size=j:=by rw[Nat.mul_comm,Nat.mul_add_mod,Nat.mod_eq_of_lt hj]
      have hjz:j<zv.cells.size:=O;refine⟨zv.cells[j],?_,(hlf _).2 j u _ hu (by rw[Array.getElem?_toList,Array.getElem?_eq_getElem hjz])⟩;simp only[madeCells,Array.getElem?_map,Array.getElem?_range,Z6 hlt,Option.map_some,hzk,hmod];rw[getElem!_pos zv.cells j hjz]
     .simp at hp;subst hp;exact⟨.inr (q4 _),OC⟩
   .exact he.elim
  .exact he.elim
 .exact he.elim
end
