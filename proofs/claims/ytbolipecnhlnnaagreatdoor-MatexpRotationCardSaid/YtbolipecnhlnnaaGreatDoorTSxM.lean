/- append; an empty slice. -/
import Derived.Test.YtbolipecnhlnnaaGreatDoorTSxL
set_option linter.unusedVariables false
set_option linter.unusedSimpArgs false
open Array renaming getElem?_append_left->q7,size_append->q8
open List renaming getElem?_eq_getElem->q0,getElem?_eq_some_iff->q2,getElem?_eq_none->q3,length_append->q5,size_toArray->q6,length_pos_iff->qA,ext_getElem?->qB,getElem?_toArray->qD,length_replicate->qE,length_take->qF,replicate->qG,toArray->qH
open Nat renaming le_of_ble_eq_true->q1,le_refl->q4,mul_le_mul_right->q9,add_mul->qC,ble->qI
open Go.Builtin renaming zeroCells->qJ,append_->qK,firstCells->qL
namespace Go.Sx
open Go
section
variable {P:Program} {T:Tab} {F:Wf} {C:Con} {c:Ctx} {o:Oper} {Z:St} {a:Act} {w:World} {E:AV->List Blk->Prop} {ids:List Nat} {bs:List Blk} {dst:Nat}
theorem zlt {k k':Elt} (h:kEq k k'=true):k=k':=by
 cases k<;>cases k'<;>simp[kEq]at h<;>rfl
theorem zk4 {k:Elt} {x:AV} {K:List k.T->Prop} (h:qba k x K): ∃ys,x= .sl k ys/\K ys:=by
 cases x with
 |sl k' ys=>cases k<;>cases k'<;>simp only[qba]at h<;>exact⟨_,rfl,h⟩
 | _=>cases k<;>simp[qba]at h
theorem yp {t e:TypeId} {ty:TypeId} {i:TypeInfo} (ht:P.underlying t=some (.slice e)) (hi:P.info? e=some i) (base ao:Option Addr) (n cap m:Nat) (h:n<=cap):
 (qK #[t,t] ty #[.slice base n cap,.slice ao 0 m]).run P w= .ok (.slice base n cap) w:=by
 have hf:(qL i.size 0 (.slice ao 0 m)).run P w= .ok #[] w:=by
  cases ao<;>simp[qL,loadCells,loadCellsFrom]
 cases base<;>simp[qK,zbc ht,zce hi,Builtin.lenOf,h,hf,storeCells]
theorem zqf (hT:TabOK P T) (hdlo:qI (vf o) 99999=true) (h:Rel c Z a w) {cl:Call} (ho:o.op= .call cl) (hcl:cl.callee= .builtin .append) (he:qm T C (.call cl) (vf o) (zj Z.sl) (nd T o Z) (qi Z.hp (nd T o Z)) E):Snd P F T c o Z a w E:=by
 have hw:wr o.op=true:=by simp[wr,ho,hcl]
 obtain⟨M,pt,ow,S,hg,hs,hr⟩:=h.own;simp only[qm,hcl]at he;split at he
 .rename_i s x t t' ha ht;split at he
  .rename_i htt;have htt:=(zb _ _).1 htt;subst htt;obtain⟨i,hmi,he⟩:=qr _ _ _ he;have hi:=hT.ti _ _ hmi;have ha':cl.args= #[s,x]:=by have:=congrArg qH ha;simpa using this
   have ht':cl.argTypes= #[t,t]:=by have:=congrArg qH ht;simpa using this
   have hn:nd T o Z=(match zj Z.sl s with| .own id=> [id,alt id (vf o)]| _=> [vf o]):=by simp only[nd,ho,xn,hcl,ha];rfl
   have hrun: ∀v w',(qK #[t,t] o.type #[a.eval s,a.eval x]).run P w= .ok v w'->(execOp a.eval o).run P w= .ok (.value v) w':=fun v w' hv=>by
    simp[execOp,ho,resolve,hcl,ha',ht',invoke,builtin,hv]
   unfold zyb at he;split at he
   .rename_i sz fs e esz len k0 ik z by_ eq;obtain⟨hu,inf,hinf,hsz⟩:=hi.slice rfl;simp only at hu hinf hsz;obtain⟨j,hmj,he⟩:=qr _ _ _ he;have hj:=hT.ti _ _ hmj;obtain⟨inf',zv,hinf',hq1,hq2,hz,hq3,hq4⟩:=hj.inf;rw[hinf]at hinf';cases hinf'
    split at he
    .rename_i cls' sz' fs' e2 esz' len' k ik' z' bytes' eq';split at he
     .rename_i he1 he2 he3;have he1:=(zb _ _).1 he1;have he2:=(zb _ _).1 he2;have he3:=q1 he3;have hsize:inf.size=k.size:=by rw[hsz,he1]
      have hzs:zv.cells.size=k.size:=by rw[hq3,<-hq1,hsize]
      simp only at hq2;have hpos:=Elt.size_pos k;have hx0:=za hr x;have hs0:=za hr s;split at he
      .rename_i hsn hb0;obtain⟨ys,hxe,hby,hE⟩:=zk4 he;rw[hsn]at hs0;simp only[R]at hs0;rw[hxe]at hx0;simp only[R]at hx0;have hn':nd T o Z= [vf o]:=by rw[hn,hsn]
       rw[hn',wm]at hb0;simp at hb0;cases hv:a.eval x<;>rw[hv]at hx0<;>(try (cases hx0;done))
       rename_i ao n cap;by_cases hys:ys= []
       .subst hys;have hn0:n=0:=by cases hx0;simpa using ‹n=_›
        subst hn0;refine⟨_,_,hE,fun Q=>uh (hrun (.slice none 0 0) w (by rw[hs0,hv];exact yp hu hinf none ao 0 0 cap (q4 _))) ?_⟩;rw[hn'];refine h.buf hb0 (.inl (by have:=q1 hdlo;omega)) none (by simp) e k [] (.slice none 0 0) rfl rfl rfl (q4 _) _ (by simp[nxt,hw,qq,zeq]) rfl fun M pt ow S _ _=>⟨fun _ _ _=>rfl,fun _ _=> .inl ⟨rfl,rfl⟩,none,0,0,rfl,by simp⟩
       .obtain⟨hnl,b,p,hao,vals,hvl,hvc,hv1,_⟩:=zbl hx0 hys;subst hnl;subst hao;have hylen:0<ys.length:=qA.2 hys;have hle:ys.length<=maxLen:=by cases hx0;omega
        have hr':=run_append_nil (P:=P) w t o.type e inf zv hu hinf hz ⟨b,p,none⟩ ys.length cap vals (by rw[hvl,hsize]) (fun j v hj=>by rw[wk];exact hvc j v hj) hylen
         (by unfold maxLen at hle;omega) (by rw[hq2];omega)
        refine⟨_,_,hE,fun Q=>uh (hrun _ _ (by rw[hs0,hv];exact hr')) ?_⟩;rw[hn'];have hcap:=grownCap_ge w ys.length 0 e;have hcm:=grownCap_le_maxLen w ys.length 0 e hle;have hex:Ext w (w.drew.alloc (.cells (vals.toArray++qJ zv.cells (grownCap w ys.length 0 e-ys.length)) e)):=by
         have:=Ext.alloc w.drew (.cells (vals.toArray++qJ zv.cells (grownCap w ys.length 0 e-ys.length)) e);exact⟨this.os,this.tape,this.output,this.size,this.block⟩
        refine h.buf hb0 (.inl (by have:=q1 hdlo;omega)) none (by simp) e k ys _ hex.os hex.tape hex.output hex.size _ (by simp[nxt,hw,qq,zeq]) rfl fun M pt ow S hg hs=>?_
        refine⟨fun b' hb' _=>hex.block b' hb',fun M' hM'=>?_,_,_,_,rfl,fun p hp=>?_⟩
        .have hx1:=za (hs pt ow (Agr.refl _ _ _)).1 x;rw[hxe,hv]at hx1;simp only[R]at hx1;obtain⟨_,b2,p2,hao2,vals2,hvl2,hvc2,_,hlf2⟩:=zbl hx1 hys;have:vals2=vals:=by
          simp at hao2;obtain⟨rfl,rfl⟩:=hao2;refine qB fun q=>?_
          by_cases hq:q<ys.length*k.size
          .have h1:=hvc q vals[q] (q0 (by omega));have h2:=hvc2 q vals2[q] (q0 (by omega));rw[h1]at h2;rw[q0 (by omega),q0 (by omega)];simpa using h2.symm
          .rw[q3 (by omega),q3 (by omega)]
         subst this;have hV: ∀b o,zn w M b o->zn (w.drew.alloc (.cells (vals2.toArray++qJ zv.cells (grownCap w ys.length 0 e-ys.length)) e)) M' b o:=
          zw fun b o hm hb=>⟨fun h'=>(hM' b h').elim hm fun h=>by have:=zg hb;omega,hex.get hb⟩
         refine .inr ⟨w.heap.size,_,_,rfl,heap_alloc_new w.drew _,hcap,hcm,?_,fun i z hz q u hu=>?_⟩
         .rw[q8,q6,size_zeroCells,hzs,hvl2,<-qC];congr 1;omega
         .obtain⟨v,hv,hlf⟩:=hlf2 i z hz q u hu;have hlt:i*k.size+q<vals2.length:=(q2.1 hv).1;refine⟨v,?_,hlf.mono hV⟩;rw[q7 (by simpa using hlt)];simpa using hv
        .simp at hp;subst hp;exact⟨.inr (q4 _),by simp⟩
      .rename_i id e' k' xs hsn hb0;split at he
       .rename_i hee hkk hlo;have hlo:=q1 hlo;have hee:=(zb _ _).1 hee;have hkk:=zlt hkk;subst hee;subst hkk;obtain⟨ys,hxe,hby,hE⟩:=zk4 he;rw[hsn]at hs0;simp only[R]at hs0;rw[hxe]at hx0;simp only[R]at hx0;have hn':nd T o Z= [id,alt id (vf o)]:=by rw[hn,hsn]
        have halt:alt id (vf o)<=999999\/(1500000<=alt id (vf o)/\alt id (vf o)<=1999998):=by
         have:=q1 hdlo;unfold alt;split
         .omega
         .split<;>omega
        have halt2:id<1000000\/1500000<=alt id (vf o):=by
         unfold alt;split
         .rename_i e;have:=Nat.eq_of_beq_eq_true e;have:=q1 hdlo;omega
         .split
          .rename_i e;have:=q1 e;omega
          .omega
        rw[hn']at hb0;simp only[qi]at hb0;simp at hb0;obtain⟨hbid,hbd⟩:=hb0;cases hv:a.eval x<;>rw[hv]at hx0<;>(try (cases hx0;done))
        rename_i ao n cap;obtain⟨hdr,how,hbuf⟩:=hg.buf id e k xs hbid;have hsv:=hs0.2 hdr how;have hdr_one: ∀M pt ow S,Good c M pt ow S Z.hp w->zc4 Z a w M pt ow->ow id=some (a.eval s)/\zao w (zn w M) e k xs (a.eval s):=by
         intro M pt ow S hg hs;obtain⟨hdr',how',hbuf'⟩:=hg.buf id e k xs hbid;have h1:=za (hs pt ow (Agr.refl _ _ _)).1 s;rw[hsn]at h1;simp only[R]at h1;rw[h1.2 hdr' how'];exact⟨how',hbuf'⟩
        have hpb:(nxt o [id,alt id (vf o)] Z (.own (alt id (vf o))) [.dead,.buf e k (xs++ys)]).hp =zeq Z.hp (some id) (alt id (vf o)) (.buf e k (xs++ys)):=by simp[nxt,hw,qq,zeq]
        have hold: ∀i,some id=some i->(i<1000000\/1500000<=alt id (vf o))/\ ∃e k xs,hget Z.hp i= .buf e k xs:=fun i hi=>by cases hi;exact⟨halt2,_,_,_,hbid⟩
        rcases hbuf with ⟨hh,hxs⟩|⟨b0,cap0,cs0,hh,hcs0,hc1,hc2,hc3,hc4⟩
        .
         subst hxs;rw[hh]at hsv;by_cases hys:ys= []
         .subst hys;have hn0:n=0:=by cases hx0;simpa using ‹n=_›
          subst hn0;refine⟨_,_,hE,fun Q=>uh (hrun (.slice none 0 0) w (by rw[hsv,hv];exact yp hu hinf none ao 0 0 cap (q4 _))) ?_⟩;rw[hn'];refine h.buf hbd halt (some id) hold e k ([]++ []) (.slice none 0 0) rfl rfl rfl (q4 _) _ hpb rfl fun M pt ow S _ _=>⟨fun _ _ _=>rfl,fun _ _=> .inl ⟨rfl,rfl⟩,none,0,0,rfl,by simp⟩
         .obtain⟨hnl,b,p,hao,vals,hvl,hvc,hv1,_⟩:=zbl hx0 hys;subst hnl;subst hao;have hylen:0<ys.length:=qA.2 hys;have hle:ys.length<=maxLen:=by cases hx0;omega
          have hr':=run_append_nil (P:=P) w t o.type e inf zv hu hinf hz ⟨b,p,none⟩ ys.length cap vals (by rw[hvl,hsize]) (fun j v hj=>by rw[wk];exact hvc j v hj) hylen
           (by unfold maxLen at hle;omega) (by rw[hq2];simp at hby;omega)
          refine⟨_,_,hE,fun Q=>uh (hrun _ _ (by rw[hsv,hv];exact hr')) ?_⟩;rw[hn'];have hcap:=grownCap_ge w ys.length 0 e;have hcm:=grownCap_le_maxLen w ys.length 0 e hle;have hex:Ext w (w.drew.alloc (.cells (vals.toArray++qJ zv.cells (grownCap w ys.length 0 e-ys.length)) e)):=by
           have:=Ext.alloc w.drew (.cells (vals.toArray++qJ zv.cells (grownCap w ys.length 0 e-ys.length)) e);exact⟨this.os,this.tape,this.output,this.size,this.block⟩
          refine h.buf hbd halt (some id) hold e k ([]++ys) _ hex.os hex.tape hex.output hex.size _ hpb rfl fun M pt ow S hg hs=>?_
          refine⟨fun b' hb' _=>hex.block b' hb',fun M' hM'=>?_,_,_,_,rfl,fun p hp=>?_⟩
          .have hx1:=za (hs pt ow (Agr.refl _ _ _)).1 x;rw[hxe,hv]at hx1;simp only[R]at hx1;obtain⟨_,b2,p2,hao2,vals2,hvl2,hvc2,_,hlf2⟩:=zbl hx1 hys;have:vals2=vals:=by
            simp at hao2;obtain⟨rfl,rfl⟩:=hao2;refine qB fun q=>?_
            by_cases hq:q<ys.length*k.size
            .have h1:=hvc q vals[q] (q0 (by omega));have h2:=hvc2 q vals2[q] (q0 (by omega));rw[h1]at h2;rw[q0 (by omega),q0 (by omega)];simpa using h2.symm
            .rw[q3 (by omega),q3 (by omega)]
           subst this;have hV: ∀b o,zn w M b o->zn (w.drew.alloc (.cells (vals2.toArray++qJ zv.cells (grownCap w ys.length 0 e-ys.length)) e)) M' b o:=
            zw fun b o hm hb=>⟨fun h'=>(hM' b h').elim hm fun h=>by have:=zg hb;omega,hex.get hb⟩
           refine .inr ⟨w.heap.size,_,_,rfl,heap_alloc_new w.drew _,hcap,hcm,?_,fun i z hz q u hu=>?_⟩
           .rw[q8,q6,size_zeroCells,hzs,hvl2,<-qC];congr 1;omega
           .obtain⟨v,hv,hlf⟩:=hlf2 i z hz q u hu;have hlt:i*k.size+q<vals2.length:=(q2.1 hv).1;refine⟨v,?_,hlf.mono hV⟩;rw[q7 (by simpa using hlt)];simpa using hv
          .simp at hp;subst hp;exact⟨.inr (q4 _),by simp⟩
        .
         rw[hh]at hsv;by_cases hys:ys= []
         .subst hys;have hn0:n=0:=by cases hx0;simpa using ‹n=_›
          subst hn0;refine⟨_,_,hE,fun Q=>uh (hrun _ w (by rw[hsv,hv];exact yp hu hinf _ ao xs.length cap0 cap hc1)) ?_⟩;rw[hn'];refine h.buf hbd halt (some id) hold e k (xs++ []) _ rfl rfl rfl (q4 _) _ hpb rfl fun M pt ow S hg hs=>?_
          obtain⟨how1,hbuf1⟩:=hdr_one M pt ow S hg hs;rw[hsv]at how1 hbuf1;refine⟨fun _ _ _=>rfl,fun M' hM'=>?_,_,_,_,rfl,fun p hp=>?_⟩
          .rw[List.append_nil];exact hbuf1.mono (zw fun b o hm hb=>⟨fun h'=>(hM' b h').elim hm fun h=>by have:=zg hb;omega,hb⟩) fun _ _ _ _ h=>h
          .simp at hp;subst hp;exact⟨.inl (by simp[zde,how1]),zg hcs0⟩
         .obtain⟨hnl,b,p,hao,vals,hvl,hvc,hv1,_⟩:=zbl hx0 hys;subst hnl;subst hao;have hylen:0<ys.length:=qA.2 hys;have hpos:0<bytes':=by omega
          have inst: ∀M pt ow S,Good c M pt ow S Z.hp w->zc4 Z a w M pt ow->ow id=some (.slice (some ⟨b0,0,none⟩) xs.length cap0)/\
           (∀(i:Nat) (x:k.T),xs[i]? =some x-> ∀(j:Nat) (u:AV),(k.cells x)[j]? =some u-> ∃v,(cs0.toList.take (xs.length*k.size))[i*k.size+j]? =some v/\Leaf (zn w M) u v)/\
           (∀(i:Nat) (x:k.T),ys[i]? =some x-> ∀(j:Nat) (u:AV),(k.cells x)[j]? =some u-> ∃v,vals[i*k.size+j]? =some v/\Leaf (zn w M) u v):=by
           intro M pt ow S hg hs;obtain⟨how1,hbuf1⟩:=hdr_one M pt ow S hg hs;rw[hsv]at how1 hbuf1;obtain⟨vals0,hvl0,hlf0,hc0⟩:=zct hbuf1;have hx1:=za (hs pt ow (Agr.refl _ _ _)).1 x;rw[hxe,hv]at hx1;simp only[R]at hx1;obtain⟨_,b2,p2,hao2,vals2,hvl2,hvc2,_,hlf2⟩:=zbl hx1 hys;have:vals2=vals:=by
            simp at hao2;obtain⟨rfl,rfl⟩:=hao2;refine qB fun q=>?_
            by_cases hq:q<ys.length*k.size
            .have h1:=hvc q vals[q] (q0 (by omega));have h2:=hvc2 q vals2[q] (q0 (by omega));rw[h1]at h2;rw[q0 (by omega),q0 (by omega)];simpa using h2.symm
            .rw[q3 (by omega),q3 (by omega)]
           subst this;refine⟨how1,?_,hlf2⟩;rcases hc0 with ⟨hc0,_⟩|⟨b3,cap3,cs3,hh3,hcs3,_,_,_,htk⟩
           .simp at hc0
           .simp at hh3;obtain⟨rfl,rfl⟩:=hh3;rw[hcs0]at hcs3;simp at hcs3;subst hcs3;rw[htk];exact hlf0
          have hvlo:(cs0.toList.take (xs.length*k.size)).length =xs.length*k.size:=by
           rw[qF];have:xs.length*k.size<=cs0.toList.length:=by simp;rw[hc3];exact q9 _ hc1
           omega
          have hsum:xs.length+ys.length<=maxLen\/True:= .inr trivial;by_cases hroom:xs.length+ys.length<=cap0
          .have hfit:xs.length*inf.size+vals.length<=cs0.size:=by
            rw[hvl,hsize,hc3,<-qC];exact q9 _ hroom
           have hr':=run_append_room (P:=P) w t o.type e inf hu hinf b0 xs.length cap0 cs0 hcs0 ⟨b,p,none⟩ ys.length cap vals (by rw[hvl,hsize]) (fun j v hj=>by rw[wk];exact hvc j v hj) hv1 hroom hfit;refine⟨_,_,hE,fun Q=>uh (hrun _ _ (by rw[hsv,hv];exact hr')) ?_⟩;rw[hn'];refine h.buf (w':=w.setRow b0 (cs0.toList.take (xs.length*inf.size)++vals++cs0.toList.drop (xs.length*inf.size+vals.length)).toArray) hbd halt (some id) hold e k (xs++ys) _ rfl rfl rfl (by simp) _ hpb rfl fun M pt ow S hg hs=>?_
           obtain⟨how1,hl1,hl2⟩:=inst M pt ow S hg hs;have hro:zde ow (some id)=some b0:=by simp[zde,how1]
           have hMb0:M b0:=hg.mt id b0 (by
            have:pt id=none:=hg.ptow how1;simp[bl,this,how1])
           refine⟨fun b' _ hb'=>setRow_other w b0 b' _ (fun e'=>hb' (by rw[hro,e'])),fun M' hM'=>?_,_,_,_,rfl,fun p hp=>?_⟩
           .have hV: ∀b o,zn w M b o->zn (w.setRow b0 (cs0.toList.take (xs.length*inf.size)++vals++cs0.toList.drop (xs.length*inf.size+vals.length)).toArray) M' b o:=
             zw fun b o hm hb=>⟨fun h'=>(hM' b h').elim hm fun h=>by have:=zg hb;omega,by rw[setRow_other w b0 b _ (fun e'=>hm (e'▸hMb0))];exact hb⟩
            refine .inr ⟨b0,cap0,_,by rw[q5],setRow_heap w b0 cs0 _ e _ hcs0,by rw[q5];exact hroom,hc2,?_,fun i z hz q u hu=>?_⟩
            .simp only[q6,q5,qF,List.length_drop,Array.length_toList];rw[<-hc3];omega
            .obtain⟨v,hv,hlf⟩:=za4 hV hvlo hl1 hl2 i z hz q u hu;refine⟨v,?_,hlf⟩;have hlt:=(q2.1 hv).1;rw[hsize];rw[qD,List.getElem?_append_left hlt];exact hv
           .simp at hp;subst hp;exact⟨.inl hro,by simpa using zg hcs0⟩
          .have hle63:xs.length+ys.length<=maxLen:=by
            unfold maxLen;have:(xs.length+ys.length)*1<=(xs.length+ys.length)*bytes':=Nat.mul_le_mul_left _ hpos;omega
           have hr':=run_append_grow (P:=P) w t o.type e inf zv hu hinf hz ⟨b0,0,none⟩ xs.length cap0 (cs0.toList.take (xs.length*k.size)) (by rw[hvlo,hsize])
            (fun j v hj=>by
              rw[wk,Nat.zero_add];rw[List.getElem?_take]at hj;split at hj
              .simp only[World.cell?,hcs0];simpa using hj
              .simp at hj) ⟨b,p,none⟩ ys.length cap vals (by rw[hvl,hsize]) (fun j v hj=>by rw[wk];exact hvc j v hj) (by omega) (by unfold maxLen at hle63;omega) (growslice_fits (by omega) (by rw[hq2];exact hby))
           refine⟨_,_,hE,fun Q=>uh (hrun _ _ (by rw[hsv,hv];exact hr')) ?_⟩;rw[hn'];have hcap:=grownCap_ge w (xs.length+ys.length) cap0 e;have hcm:=grownCap_le_maxLen w (xs.length+ys.length) cap0 e hle63;have hex:Ext w (w.drew.alloc (.cells ((cs0.toList.take (xs.length*k.size)).toArray ++vals.toArray++qJ zv.cells (grownCap w (xs.length+ys.length) cap0 e-(xs.length+ys.length))) e)):=by
            have:=Ext.alloc w.drew (.cells ((cs0.toList.take (xs.length*k.size)).toArray ++vals.toArray++qJ zv.cells (grownCap w (xs.length+ys.length) cap0 e-(xs.length+ys.length))) e);exact⟨this.os,this.tape,this.output,this.size,this.block⟩
           refine h.buf hbd halt (some id) hold e k (xs++ys) _ hex.os hex.tape hex.output hex.size _ hpb rfl fun M pt ow S hg hs=>?_
           obtain⟨how1,hl1,hl2⟩:=inst M pt ow S hg hs;refine⟨fun b' hb' _=>hex.block b' hb',fun M' hM'=>?_,_,_,_,rfl,fun p hp=>?_⟩
           .have hV: ∀b o,zn w M b o->zn (w.drew.alloc (.cells ((cs0.toList.take (xs.length*k.size)).toArray ++vals.toArray++qJ zv.cells (grownCap w (xs.length+ys.length) cap0 e-(xs.length+ys.length))) e)) M' b o:=
             zw fun b o hm hb=>⟨fun h'=>(hM' b h').elim hm fun h=>by have:=zg hb;omega,hex.get hb⟩
            refine .inr ⟨w.heap.size,_,_,by rw[q5],heap_alloc_new w.drew _,by rw[q5];exact hcap,hcm,?_,fun i z hz q u hu=>?_⟩
            .rw[q8,q8,q6,q6,size_zeroCells,hzs,hvl,hvlo,<-qC,<-qC];congr 1;omega
            .obtain⟨v,hv,hlf⟩:=za4 hV hvlo hl1 hl2 i z hz q u hu;refine⟨v,?_,hlf⟩;have hlt:=(q2.1 hv).1;rw[q7 (by simpa using hlt)];rw[List.append_toArray,qD];exact hv
           .simp at hp;subst hp;exact⟨.inr (q4 _),by simp⟩
       .exact he.elim
      .exact he.elim
     .exact he.elim
    .exact he.elim
   .exact he.elim
  .exact he.elim
 .exact he.elim
theorem zr8 (hT:TabOK P T) (hlo:qI (vf o) 99999=true) (h:Rel c Z a w) {t:TypeId} {parts:Array (Nat×Operand)} (ho:o.op= .buildSlice t 0 parts)
 (he:qm T C (.buildSlice t 0 parts) (vf o) (zj Z.sl) (nd T o Z) (qi Z.hp (nd T o Z)) E):Snd P F T c o Z a w E:=by
 have hw:wr o.op=true:=by simp[wr,ho]
 have hn:nd T o Z= [vf o]:=by simp[nd,ho,xn]
 rw[hn,wm]at he;simp only[qm]at he;obtain⟨i,hmem,he⟩:=qr _ _ _ he;have hi:=hT.ti _ _ hmem;split at he
 .rename_i sz fs e esz len k0 ik z by_ eq;obtain⟨hu,inf,hinf,hsz⟩:=hi.slice rfl;simp only at hu hinf hsz;obtain⟨j,hmj,he⟩:=qr _ _ _ he;split at he
  .rename_i cls' sz' fs' e2 esz' len' k ik' z' bytes' eq';split at he
   .split at he
    .rename_i hf hp0;simp at hf;have hp0:parts= #[]:=by simpa using hp0
     refine⟨_,_,he,fun Q=>?_⟩;rw[hn];refine uh (v:= .slice (some ⟨w.heap.size,0,none⟩) 0 0) (w':=w.alloc (.cells #[] e)) ?_ (h.buf (w':=w.alloc (.cells #[] e)) hf (by have:=q1 hlo;omega) none (by simp) e k [] _ rfl rfl rfl (by simp) (nxt o [vf o] Z (.own (vf o)) [.buf e k []]) (by simp[nxt,hw,qq,zeq]) rfl fun M pt ow S hg hs=>?_)
     .subst hp0;simp[execOp,ho,Instr.buildSlice,zbc hu,zce hinf,newRow,newObj,Sem.run,Instr.fill];exact congrArg (fun x=>w.alloc (.cells x e)) (Array.eq_empty_of_size_eq_zero (by simp))
     .have hnew:(w.alloc (.cells #[] e)).heap[w.heap.size]? =some (.cells #[] e (0,0)):=by
       show(w.heap.push _)[w.heap.size]? =_;simp
      refine⟨fun b' hb' _=>(Ext.alloc w _).block b' hb',fun M' _=> .inr ⟨w.heap.size,0,#[],rfl,hnew,q4 _,by simp,by simp,by simp⟩,_,_,_,rfl,fun p hp=>?_⟩;simp at hp;subst hp;exact⟨.inr (q4 _),by simp⟩
    .exact he.elim
   .exact he.elim
  .exact he.elim
 .exact he.elim
theorem zqc (hT:TabOK P T) (hlo:qI (vf o) 99999=true) (h:Rel c Z a w) {t:TypeId} {l c':Operand} (ho:o.op= .makeSlice t l c')
 (he:qm T C (.makeSlice t l c') (vf o) (zj Z.sl) (nd T o Z) (qi Z.hp (nd T o Z)) E):Snd P F T c o Z a w E:=by
 have hw:wr o.op=true:=by simp[wr,ho]
 have hn:nd T o Z= [vf o]:=by simp[nd,ho,xn]
 rw[hn,wm]at he;simp only[qm]at he;obtain⟨i,hmem,he⟩:=qr _ _ _ he;have hi:=hT.ti _ _ hmem;split at he
 .rename_i sz fs e esz len k0 ik z by_ eq;obtain⟨hu,inf,hinf,hsz⟩:=hi.slice rfl;simp only at hu hinf hsz;obtain⟨j,hmj,he⟩:=qr _ _ _ he;have hj:=hT.ti _ _ hmj;split at he
  .rename_i cls' sz' fs' e2 esz' len' k ik' z' bytes' eq';split at he
   .rename_i hq1 hq2 hq3 hl hc hf;rename_i kn n km m;simp at hf;obtain⟨y,⟨⟨h0,hnm,hby⟩,he⟩,hone,hy⟩:=yz he;obtain⟨inf',zv,hinf',hs',hb',hz',hzs',hzr⟩:=hj.inf;simp only at hs' hb' hz' hzs' hzr;rw[hinf]at hinf';cases hinf'
    have hq2:=(zb _ _).1 hq2;have hby1:1<=bytes':=q1 hq3;obtain⟨M0,pt0,ow0,S0,hg0,hs0,hr0⟩:=h.own;have hel:a.eval l= .int kn n:=by have:=za hr0 l;rw[hl]at this;exact this
    have hec:a.eval c'= .int km m:=by have:=za hr0 c';rw[hc]at this;exact this
    have hm0:0<=m:=by omega
    have hm1:m<=140737488355328:=by
     have h1:m*1<=m*(bytes':Int):=Int.mul_le_mul_of_nonneg_left (by omega) hm0;omega
    have hks:inf.size=k.size:=by omega
    have hzk:zv.cells.size=k.size:=by omega
    have hpos:=Elt.size_pos k;refine⟨_,_,he,fun Q=>?_⟩;rw[hn];refine uh (v:= .slice (some ⟨w.heap.size,0,none⟩) n.toNat m.toNat) (w':=w.alloc (.cells (madeCells zv.cells (m.toNat*inf.size)) e)) ?_
     (h.buf (w':=w.alloc (.cells (madeCells zv.cells (m.toNat*inf.size)) e)) hf (by have:=q1 hlo;omega) none (by simp) e k (qG n.toNat y) _ rfl rfl rfl (by simp) (nxt o [vf o] Z (.own (vf o)) [.buf e k (qG n.toNat y)]) (by simp[nxt,hw,qq,zeq]) rfl fun M pt ow S hg hs=>?_)
    .have hrun:=run_make (P:=P) w t e inf zv hu hinf hz' kn km n m h0 hnm (by rw[hb',Int.mul_comm];omega) (by omega);simp only[execOp,ho,hel,hec];simp[hrun]
    .have hnew:(w.alloc (.cells (madeCells zv.cells (m.toNat*inf.size)) e)).heap[w.heap.size]? =some (.cells (madeCells zv.cells (m.toNat*inf.size)) e (0,0)):=by
      show(w.heap.push _)[w.heap.size]? =_;simp
     have hlf: ∀V,uf V (k.cells y) zv.cells.toList:=fun V=>hy _ _ (hzr ⟨V,fun _=>none,fun _=>none⟩)
     refine⟨fun b' hb' _=>(Ext.alloc w _).block b' hb',fun M' _=> .inr ⟨w.heap.size,m.toNat,_,by rw[qE],hnew,by rw[qE];omega,by unfold maxLen;omega,by rw[size_madeCells,hks],fun q x hx j u hu=>?_⟩,_,_,_,rfl,fun p hp=>?_⟩
     .have hq:q<n.toNat:=by have:=(q2.1 hx).1;simpa using this
      have hxy:x=y:=by
       rw[List.getElem?_replicate,Z4 hq]at hx;exact(Option.some.inj hx).symm
      subst hxy;have hj:j<k.size:=by rw[<-vg k x];exact(q2.1 hu).1
      have hlt:q*k.size+j<m.toNat*inf.size:=by
       rw[hks];have h1:(q+1)*k.size<=m.toNat*k.size:=q9 _ (by omega);rw[Nat.succ_mul]at h1;omega
      have hmod:(q*k.size+j) % k.size=j:=by rw[Nat.mul_comm,Nat.mul_add_mod,Nat.mod_eq_of_lt hj]
      have hjz:j<zv.cells.size:=by omega
      refine⟨zv.cells[j],?_,(hlf _).2 j u _ hu (by rw[Array.getElem?_toList,Array.getElem?_eq_getElem hjz])⟩;simp only[madeCells,Array.getElem?_map,Array.getElem?_range,Z4 hlt,Option.map_some,hzk,hmod];rw[getElem!_pos zv.cells j hjz]
     .simp at hp;subst hp;exact⟨.inr (q4 _),by simp⟩
   .exact he.elim
  .exact he.elim
 .exact he.elim
end
