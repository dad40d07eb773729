/- Freezing, renaming, guards; a list of operations. -/
import Derived.Test.YtlbmkjbgfkgcmaaGreatDoorTSxN
set_option linter.all false
open Go.Region renaming wanted->q0
namespace Go.Sx
open Go
section
variable {P:Program} {T:Tab} {F:Wf} {c:Ctx} {Y:St} {a:Act} {w:World}
theorem zpa(id:Nat)(k:Elt)(xs:List k.T):∀(h:Hp)(i:Nat),hget (fzH id k xs h) i=if i=id then .dead else(match hget h i with
 |.cells l=>.cells (fzL id k xs l)
 |b=>b)
 | [],i=>by simp[fzH,hget]
 |(j,b)::r,i=>by
  have ih:=zpa id k xs r i;by_cases e:j=id
  .have:fzH id k xs ((j,b)::r)=(j,.dead)::fzH id k xs r:=by
    simp only[fzH];rw[(zd _ _).2 e]
   rw[this,zf,zf,ih];by_cases e2:j=i
   .rw[Z6 e2,Z6 O]
   .rw[Z7 e2,Z7 e2]
  .have:fzH id k xs ((j,b)::r)=(j,match b with|.cells l=>.cells (fzL id k xs l)|b=>b)::fzH id k xs r:=by
    simp only[fzH];rw[(zt _ _).2 e];rfl
   rw[this,zf,zf,ih];by_cases e2:j=i
   .rw[Z6 e2,Z6 e2,Z7 O]
   .rw[Z7 e2,Z7 e2]
mutual
theorem R.fz{ρ ρ':Env}{id:Nat}{k:Elt}{xs:List k.T}{hdr:Value}(hV:∀b o,ρ.V b o->ρ'.V b o)(hpt:∀i,ρ.pt i=ρ'.pt i)(how:∀i,i≠id->ρ.ow i=ρ'.ow i)(hid:ρ.ow id=some hdr)(hl:Leaf ρ'.V (.sl k xs) hdr):
 ∀(a:AV)(v:Value),R ρ a v->R ρ' (a.fz id k xs) v
 |.any,_,_=>by simp[AV.fz,R]
 |.bool _,_,h=>by simpa[AV.fz,R]using h
 |.int _ _,_,h=>by simpa[AV.fz,R]using h
 |.str _,_,h=>by simpa[AV.fz,R]using h
 |.nilp,_,h=>by simpa[AV.fz,R]using h
 |.ptr i o,v,h=>by simp only[AV.fz,R]at h⊢;rw[<-hpt];exact h
 |.rp t x o,v,h=>by
   simp only[AV.fz,R]at h⊢;obtain⟨b,p,hv,ha⟩:=h;exact⟨b,p,hv,ha.mono hV⟩
 |.opt i s j o,v,h=>by
   simp only[AV.fz];split
   .simp[R]
   .rename_i e;simp only[R]at h⊢;rw[<-how i ((zt _ _).1 e)];exact h
 |.ow i s j n,v,h=>by
   simp only[AV.fz];split
   .simp[R]
   .rename_i e;simp only[R]at h⊢;rw[<-how i ((zt _ _).1 e)];exact h
 |.nilsl,_,h=>by simpa[AV.fz,R]using h
 |.sl t ys,v,h=>by simp only[AV.fz,R]at h⊢;exact h.mono hV
 |.own i,v,h=>by
   simp only[AV.fz];split
   .rename_i e;have e:=(zd _ _).1 e;subst e;simp only[R]at h⊢;rw[h.2 hdr hid];exact hl
   .rename_i e;simp only[R]at h⊢;rw[<-how i ((zt _ _).1 e)];exact h
 |.agg l,v,h=>by
   simp only[AV.fz,R]at h⊢;obtain⟨vs,hv,hr⟩:=h;exact⟨vs,hv,Rs.fz hV hpt how hid hl l _ hr⟩
 |.tup l,v,h=>by
   simp only[AV.fz,R]at h⊢;obtain⟨vs,hv,hr⟩:=h;exact⟨vs,hv,Rs.fz hV hpt how hid hl l _ hr⟩
 |.fn f l,v,h=>by
   simp only[AV.fz,R]at h⊢;obtain⟨vs,hv,hr⟩:=h;exact⟨vs,hv,Rs.fz hV hpt how hid hl l _ hr⟩
 |.nilf,_,h=>by simpa[AV.fz,R]using h
 |.mp i,v,h=>by simp only[AV.fz,R]at h⊢;rw[<-hpt];exact h
 |.nilm,_,h=>by simpa[AV.fz,R]using h
 |.ub _ _,_,h=>by simpa only[AV.fz,R]using h
 |.cb _,_,h=>by simpa[AV.fz,R]using h
 |.val _,_,h=>by simpa[AV.fz,R]using h
theorem Rs.fz{ρ ρ':Env}{id:Nat}{k:Elt}{xs:List k.T}{hdr:Value}(hV:∀b o,ρ.V b o->ρ'.V b o)(hpt:∀i,ρ.pt i=ρ'.pt i)(how:∀i,i≠id->ρ.ow i=ρ'.ow i)(hid:ρ.ow id=some hdr)(hl:Leaf ρ'.V (.sl k xs) hdr):
 ∀(l:List AV)(vs:List Value),Rs ρ l vs->Rs ρ' (fzL id k xs l) vs
 | [],[],_=>by simp[fzL,Rs]
 | [],_::_,h=>by simp[Rs]at h
 | _::_,[],h=>by simp[Rs]at h
 |a::l,v::vs,h=>by
  simp only[fzL,Rs]at h⊢;exact⟨R.fz hV hpt how hid hl a v h.1,Rs.fz hV hpt how hid hl l vs h.2⟩
end
theorem Rel.freeze(h:Rel c Y a w){id:Nat}{e:TypeId}{k:Elt}{xs:List k.T}(hi:hget Y.hp id=.buf e k xs)(hlo:id<=999999):Rel c ⟨fzL id k xs Y.sl,fzH id k xs Y.hp⟩ a w:=by
 obtain⟨M,pt,ow,S,hg,hs,hdf⟩:=h;obtain⟨hdr,how,hbuf⟩:=hg.buf id e k xs hi;have hptid:pt id=none:=hg.ptow how
 let M':Nat->Prop:=fun b=>M b/\bl pt ow id≠some b
 have hV:∀b ob,zo w M b ob->zo w M' b ob:=zy fun b ob hm hb=>⟨fun h'=>hm h'.1,hb⟩
 have hbl:∀i b,bl pt (upd ow id none) i=some b->i≠id/\bl pt ow i=some b:=fun i b hb=>by
  by_cases e:i=id
  .subst e;simp only[bl,hptid,wm]at hb;cases hb
  .exact⟨e,by simpa only[bl,ud _ _ e]using hb⟩
 have hget:=zpa id k xs Y.hp;have hleaf:Leaf (zo w M') (.sl k xs) hdr:=by
  rcases hbuf with ⟨h1,h2⟩|⟨b,cap,cs,h1,h2,h3,h4,h5,h6⟩
  .subst h1;subst h2;exact .sl k [] none 0 0 0 0 rfl (Nat.le_refl _) OC OC OC
  .subst h1;have hnM:¬M' b:=fun h=>h.2 (by simp[bl,hptid,how])
   refine .sl k xs _ _ _ b 0 rfl h3 h4 (fun _=>rfl) (zf7 hnM h2 (fun i x hx q u hu=>?_) fun i x hx=>?_)
   .obtain⟨v,hv,hl⟩:=h6 i x hx q u hu;exact⟨v,hv,hl.mono hV⟩
   .have:=(List.getElem?_eq_some_iff.1 hx).1;rw[h5];exact Nat.mul_le_mul_right _ O
 refine⟨M',pt,upd ow id none,S,?_,?_,hdf.mono hV⟩
 .exact {
   os:=hg.os,tape:=hg.tape,output:=hg.output,size:=hg.size,keep:=hg.keep
   fresh:=fun b hb=>hg.fresh b hb.1
   m0:=fun b hb=>⟨hg.m0 b hb,fun hb'=>by
    rcases hg.loc id b hb' with h1|h1
    .have:=hg.m1 b hb;omega
    .omega⟩
   m1:=hg.m1
   mt:=fun i b hb=>⟨hg.mt i b (hbl i b hb).2,fun h=>(hbl i b hb).1 (hg.inj i id b (hbl i b hb).2 h)⟩
   gm:=fun b hb=>⟨hg.gm b hb,fun h=>hg.gd id b h hb⟩
   gl:=hg.gl
   gd:=fun i b hb=>hg.gd i b (hbl i b hb).2
   loc:=fun i b hb=>hg.loc i b (hbl i b hb).2
   farp:=hg.farp
   farw:=fun i h' hi hb=>by rw[ud _ _ (O:i≠id)]at hb;exact hg.farw i h' hi hb
   inj:=fun i j b hi hj=>hg.inj i j b (hbl i b hi).2 (hbl j b hj).2
   dpt:=fun i b hb=>by
    have h1:=hg.dpt i b hb;have e:i≠id:=fun e=>by subst e;rw[hptid]at hb;cases hb
    rw[hget,Z7 e];split
    .rfl
    .exact h1
   dow:=fun i h' hb=>by
    have e:i≠id:=fun e=>by subst e;rw[wm]at hb;cases hb
    rw[ud _ _ e]at hb;have h1:=hg.dow i h' hb;rw[hget,Z7 e];split
    .rename_i l hl;rw[hl]at h1;cases h1
    .exact h1
   blk:=fun i=>by
    rw[hget];by_cases e:i=id
    .rw[Z6 e];trivial
    .rw[Z7 e];have h1:uc w (zo w M') pt (upd ow id none) S i (Sx.hget Y.hp i):=(hg.blk i).mono rfl (ud _ _ e) hV (fun _=>hg.ptow) (fun _ _ _ h=>h) (fun _ _ _ h=>h);split
     .rename_i l hl;rw[hl]at h1;exact h1
     .exact h1}
 .intro pt3 ow3 hag;have hag':Agr Y.hp pt pt3 ow (upd ow3 id (some hdr)):=fun i hi'=>by
   by_cases e:i=id
   .subst e;exact⟨(hag i (by rw[hget,Z6 rfl];rfl)).1,by rw[wm,how]⟩
   .have:=hag i (by
     rw[hget,Z7 e];split
     .rfl
     .exact hi')
    rw[ud _ _ e]at this;exact⟨this.1,by rw[ud _ _ e];exact this.2⟩
  obtain⟨h1,h2⟩:=hs pt3 (upd ow3 id (some hdr)) hag';have key:∀l vs,Rs ⟨zo w M,pt3,upd ow3 id (some hdr)⟩ l vs->Rs ⟨zo w M',pt3,ow3⟩ (fzL id k xs l) vs:=
   Rs.fz (ρ:=⟨zo w M,pt3,upd ow3 id (some hdr)⟩) (ρ':=⟨zo w M',pt3,ow3⟩) hV (fun _=>rfl) (fun i e=>ud _ _ e) (wm _ _ _) hleaf
  refine⟨key _ _ h1,fun i l b cs Ty hl hb hcs=>?_⟩;rw[hget]at hl;split at hl
  .cases hl
  .split at hl
   .rename_i l' hl';cases hl
    exact key _ _ (h2 i l' b cs Ty hl' hb hcs)
   .rename_i hne;exact absurd hl (hne l)
theorem xc:∀ {ids:List Nat}{Y:St}{K:St->Prop},Rel c Y a w->zg5 ids Y K->∃σ',Rel c σ' a w/\K σ'
 | [],Y,K,h,hk=>⟨Y,h,hk⟩
 |id::ids,Y,K,h,hk=>by
  simp only[zg5]at hk;split at hk
  .rename_i e k xs hi hlo;rw[vf,um]at hk;exact xc (h.freeze hi (Nat.le_of_ble_eq_true hlo)) hk
  .exact hk.elim
theorem qd1(d:Nat)(nb b:Blk)(r:Hp){j:Nat}(e:j=d):rnH d nb ((j,b)::r)=(j,nb)::rnH d nb r:=by
 simp only[rnH];rw[(zd _ _).2 e]
theorem qd2(d:Nat)(nb b:Blk)(r:Hp){j:Nat}(e:j=d+100000):rnH d nb ((j,b)::r)=(j,.free)::rnH d nb r:=by
 simp only[rnH];rw[(zt _ _).2 (O:j≠d),(zd _ _).2 e]
theorem qd0(d:Nat)(nb b:Blk)(r:Hp){j:Nat}(e:j≠d)(e':j≠d+100000):rnH d nb ((j,b)::r)=(j,match b with|.cells l=>.cells (rnL d l)|b=>b)::rnH d nb r:=by
 simp only[rnH];rw[(zt _ _).2 e,(zt _ _).2 e'];rfl
theorem zmy(d:Nat)(nb b:Blk)(r:Hp)(j:Nat):∃b',rnH d nb ((j,b)::r)=(j,b')::rnH d nb r:=by
 by_cases e:j=d
 .exact⟨_,qd1 d nb b r e⟩
 .by_cases e':j=d+100000
  .exact⟨_,qd2 d nb b r e'⟩
  .exact⟨_,qd0 d nb b r e e'⟩
theorem ziz(d:Nat)(nb:Blk):∀(h:Hp),uh h d->hget (rnH d nb h) d=nb
 | [],hk=>by simp[uh]at hk
 |(j,b)::r,hk=>by
  by_cases e:j=d
  .rw[qd1 d nb b r e,zf,Z6 e]
  .obtain⟨b',hb⟩:=zmy d nb b r j;rw[hb,zf,Z7 e];refine ziz d nb r ?_;simp only[uh,List.map_cons,List.mem_cons]at hk;exact hk.resolve_left fun h=>e h.symm
theorem zi0(d:Nat)(nb:Blk):∀(h:Hp),uh h (d+100000)->hget (rnH d nb h) (d+100000)=.free
 | [],hk=>by simp[uh]at hk
 |(j,b)::r,hk=>by
  by_cases e:j=d+100000
  .rw[qd2 d nb b r e,zf,Z6 e]
  .obtain⟨b',hb⟩:=zmy d nb b r j;rw[hb,zf,Z7 e];refine zi0 d nb r ?_;simp only[uh,List.map_cons,List.mem_cons]at hk;exact hk.resolve_left fun h=>e h.symm
theorem ziy(d:Nat)(nb:Blk){i:Nat}(e1:i≠d)(e2:i≠d+100000):∀(h:Hp),hget (rnH d nb h) i=(match hget h i with
 |.cells l=>.cells (rnL d l)
 |b=>b)
 | []=>by simp[rnH,hget]
 |(j,b)::r=>by
  have ih:=ziy d nb e1 e2 r;by_cases e:j=i
  .rw[qd0 d nb b r O O,zf,zf,Z6 e,Z6 e]
  .obtain⟨b',hb⟩:=zmy d nb b r j;rw[hb,zf,zf,Z7 e,Z7 e,ih]
mutual
theorem R.rn{ρ ρ':Env}{d:Nat}(hV:∀b o,ρ.V b o->ρ'.V b o)(hpt:∀i,i≠d->i≠d+100000->ρ.pt i=ρ'.pt i)(how:∀i,i≠d->i≠d+100000->ρ.ow i=ρ'.ow i)(hd:ρ.ow (d+100000)=ρ'.ow d):
 ∀(a:AV)(v:Value),R ρ a v->R ρ' (a.rn d) v
 |.any,_,_=>by simp[AV.rn,R]
 |.bool _,_,h=>by simpa[AV.rn,R]using h
 |.int _ _,_,h=>by simpa[AV.rn,R]using h
 |.str _,_,h=>by simpa[AV.rn,R]using h
 |.nilp,_,h=>by simpa[AV.rn,R]using h
 |.ptr i o,v,h=>by
   simp only[AV.rn];split
   .simp[R]
   .rename_i e1;split
    .simp[R]
    .rename_i e2;simp only[R]at h⊢;rw[<-hpt i ((zt _ _).1 e1) ((zt _ _).1 e2)];exact h
 |.rp t x o,v,h=>by
   simp only[AV.rn,R]at h⊢;obtain⟨b,p,hv,ha⟩:=h;exact⟨b,p,hv,ha.mono hV⟩
 |.opt i s j o,v,h=>by
   simp only[AV.rn];split
   .simp[R]
   .rename_i e1;split
    .rename_i e2;have e2:=(zd _ _).1 e2;subst e2;simp only[R]at h⊢;rw[<-hd];exact h
    .rename_i e2;simp only[R]at h⊢;rw[<-how i ((zt _ _).1 e1) ((zt _ _).1 e2)];exact h
 |.ow i s j n,v,h=>by
   simp only[AV.rn];split
   .simp[R]
   .rename_i e1;split
    .rename_i e2;have e2:=(zd _ _).1 e2;subst e2;simp only[R]at h⊢;rw[<-hd];exact h
    .rename_i e2;simp only[R]at h⊢;rw[<-how i ((zt _ _).1 e1) ((zt _ _).1 e2)];exact h
 |.nilsl,_,h=>by simpa[AV.rn,R]using h
 |.sl t ys,v,h=>by simp only[AV.rn,R]at h⊢;exact h.mono hV
 |.own i,v,h=>by
   simp only[AV.rn];split
   .simp[R]
   .rename_i e1;split
    .rename_i e2;have e2:=(zd _ _).1 e2;subst e2;simp only[R]at h⊢;rw[<-hd];exact h
    .rename_i e2;simp only[R]at h⊢;rw[<-how i ((zt _ _).1 e1) ((zt _ _).1 e2)];exact h
 |.agg l,v,h=>by
   simp only[AV.rn,R]at h⊢;obtain⟨vs,hv,hr⟩:=h;exact⟨vs,hv,Rs.rn hV hpt how hd l _ hr⟩
 |.tup l,v,h=>by
   simp only[AV.rn,R]at h⊢;obtain⟨vs,hv,hr⟩:=h;exact⟨vs,hv,Rs.rn hV hpt how hd l _ hr⟩
 |.fn f l,v,h=>by
   simp only[AV.rn,R]at h⊢;obtain⟨vs,hv,hr⟩:=h;exact⟨vs,hv,Rs.rn hV hpt how hd l _ hr⟩
 |.nilf,_,h=>by simpa[AV.rn,R]using h
 |.mp i,v,h=>by
   simp only[AV.rn];split
   .simp[R]
   .rename_i e1;split
    .simp[R]
    .rename_i e2;simp only[R]at h⊢;rw[<-hpt i ((zt _ _).1 e1) ((zt _ _).1 e2)];exact h
 |.nilm,_,h=>by simpa[AV.rn,R]using h
 |.ub _ _,_,h=>by simpa only[AV.rn,R]using h
 |.cb _,_,h=>by simpa[AV.rn,R]using h
 |.val _,_,h=>by simpa[AV.rn,R]using h
theorem Rs.rn{ρ ρ':Env}{d:Nat}(hV:∀b o,ρ.V b o->ρ'.V b o)(hpt:∀i,i≠d->i≠d+100000->ρ.pt i=ρ'.pt i)(how:∀i,i≠d->i≠d+100000->ρ.ow i=ρ'.ow i)(hd:ρ.ow (d+100000)=ρ'.ow d):
 ∀(l:List AV)(vs:List Value),Rs ρ l vs->Rs ρ' (rnL d l) vs
 | [],[],_=>by simp[rnL,Rs]
 | [],_::_,h=>by simp[Rs]at h
 | _::_,[],h=>by simp[Rs]at h
 |a::l,v::vs,h=>by
  simp only[rnL,Rs]at h⊢;exact⟨R.rn hV hpt how hd a v h.1,Rs.rn hV hpt how hd l vs h.2⟩
end
theorem Rel.rename(h:Rel c Y a w){d:Nat}{e:TypeId}{k:Elt}{xs:List k.T}(h1:hget Y.hp (d+100000)=.buf e k xs)(h0:hget Y.hp d=.dead)(hk0:uh Y.hp d)(hlo:d<=99999):
 Rel c ⟨rnL d Y.sl,rnH d (.buf e k xs) Y.hp⟩ a w:=by
 obtain⟨M,pt,ow,S,hg,hs,hdf⟩:=h;have hk1:uh Y.hp (d+100000):=zr (by rw[h1];simp);have hn0:pt d=none/\ow d=none:=⟨hg.ptn (by rw[h0];rfl),hg.own (by rw[h0];rfl)⟩;obtain⟨hdr,how1,hbuf1⟩:=hg.buf _ e k xs h1;have hpt1:pt (d+100000)=none:=hg.ptow how1;have hne:d≠d+100000:=O
 let owN:Nat->Option Value:=upd (upd ow (d+100000) none) d (some hdr)
 have hoN_d:owN d=some hdr:=wm _ _ _;have hoN_1:owN (d+100000)=none:=by simp only[owN];rw[ud _ _ hne.symm];exact wm _ _ _
 have hoN:∀i,i≠d->i≠d+100000->owN i=ow i:=fun i e1 e2=>by simp only[owN];rw[ud _ _ e1,ud _ _ e2]
 have hbl:∀i b,bl pt owN i=some b->(i=d/\bl pt ow (d+100000)=some b)\/(i≠d/\i≠d+100000/\bl pt ow i=some b):=fun i b hb=>by
  by_cases e1:i=d
  .subst e1;refine .inl ⟨rfl,?_⟩;unfold bl at hb⊢;rw[hn0.1,hoN_d]at hb;rw[hpt1,how1];exact hb
  .by_cases e2:i=d+100000
   .subst e2;unfold bl at hb;rw[hpt1,hoN_1]at hb;cases hb
   .refine .inr ⟨e1,e2,?_⟩;unfold bl at hb⊢;rw[hoN i e1 e2]at hb;exact hb
 have hget_d:Sx.hget (rnH d (.buf e k xs) Y.hp) d=.buf e k xs:=ziz _ _ _ hk0;have hget_1:Sx.hget (rnH d (.buf e k xs) Y.hp) (d+100000)=.free :=zi0 _ _ _ hk1;have hget_n:∀i,i≠d->i≠d+100000->Sx.hget (rnH d (.buf e k xs) Y.hp) i=(match Sx.hget Y.hp i with
  |.cells l=>.cells (rnL d l)
  |b=>b):=fun i e1 e2=>ziy _ _ e1 e2 _
 refine⟨M,pt,owN,S,?_,?_,hdf⟩
 .exact {
   os:=hg.os,tape:=hg.tape,output:=hg.output,size:=hg.size,keep:=hg.keep,fresh:=hg.fresh,m0:=hg.m0,m1:=hg.m1
   mt:=fun i b hb=>(hbl i b hb).elim (fun h=>hg.mt _ b h.2) fun h=>hg.mt i b h.2.2
   loc:=fun i b hb=>by
    rcases hbl i b hb with ⟨_,h⟩|⟨_,_,h⟩
    .rcases hg.loc _ b h with h2|h2
     .exact .inl h2
     .omega
    .exact hg.loc i b h
   farp:=hg.farp
   farw:=fun i h' hi hb=>by rw[hoN i O O]at hb;exact hg.farw i h' hi hb
   gm:=hg.gm
   gl:=hg.gl
   gd:=fun i b hb=>(hbl i b hb).elim (fun h=>hg.gd _ b h.2) fun h=>hg.gd i b h.2.2
   inj:=fun i j b hi hj=>by
    rcases hbl i b hi with ⟨e1,h2⟩|⟨e1,e2,h2⟩<;>rcases hbl j b hj with ⟨e3,h3⟩|⟨e3,e4,h3⟩
    .rw[e1,e3]
    .exact absurd (hg.inj _ _ b h3 h2) e4
    .exact absurd (hg.inj _ _ b h2 h3) e2
    .exact hg.inj i j b h2 h3
   dpt:=fun i b hb=>by
    have e1:i≠d:=fun e1=>by subst e1;rw[hn0.1]at hb;cases hb
    have e2:i≠d+100000:=fun e2=>by subst e2;rw[hpt1]at hb;cases hb
    have h2:=hg.dpt i b hb;rw[hget_n i e1 e2];split
    .rfl
    .exact h2
   dow:=fun i h' hb=>by
    by_cases e1:i=d
    .subst e1;rw[hget_d];rfl
    .have e2:i≠d+100000:=fun e2=>by subst e2;rw[hoN_1]at hb;cases hb
     rw[hoN i e1 e2]at hb;have h2:=hg.dow i h' hb;rw[hget_n i e1 e2];split
     .rename_i l hl;rw[hl]at h2;cases h2
     .exact h2
   blk:=fun i=>by
    by_cases e1:i=d
    .subst e1;rw[hget_d];exact⟨hdr,hoN_d,hbuf1⟩
    .by_cases e2:i=d+100000
     .subst e2;rw[hget_1];trivial
     .rw[hget_n i e1 e2];have h2:uc w (zo w M) pt owN S i (Sx.hget Y.hp i):=(hg.blk i).mono rfl (hoN i e1 e2) (fun _ _ h=>h) (fun _=>hg.ptow) (fun _ _ _ h=>h) (fun _ _ _ h=>h);split
      .rename_i l hl;rw[hl]at h2;exact h2
      .exact h2}
 .intro pt3 ow3 hag;have had:=hag d (by rw[hget_d];rfl)
  let pt4:Nat->Option Nat:=upd (upd pt3 (d+100000) none) d none
  let ow4:Nat->Option Value:=upd (upd ow3 (d+100000) (some hdr)) d none
  have hp4:∀i,i≠d->i≠d+100000->pt4 i=pt3 i:=fun i e1 e2=>by simp only[pt4];rw[ud _ _ e1,ud _ _ e2]
  have ho4:∀i,i≠d->i≠d+100000->ow4 i=ow3 i:=fun i e1 e2=>by simp only[ow4];rw[ud _ _ e1,ud _ _ e2]
  have ho41:ow4 (d+100000)=some hdr:=by simp only[ow4];rw[ud _ _ hne.symm];exact wm _ _ _
  have hp41:pt4 (d+100000)=none:=by simp only[pt4];rw[ud _ _ hne.symm];exact wm _ _ _
  have hag':Agr Y.hp pt pt4 ow ow4:=fun i hi=>by
   by_cases e1:i=d
   .subst e1;rw[hn0.1,hn0.2];exact⟨wm _ _ _,wm _ _ _⟩
   .by_cases e2:i=d+100000
    .subst e2;rw[hpt1,how1];exact⟨hp41,ho41⟩
    .have:=hag i (by
      rw[hget_n i e1 e2];split
      .rfl
      .exact hi)
     rw[hoN i e1 e2]at this;rw[hp4 i e1 e2,ho4 i e1 e2];exact this
  obtain⟨h2,h3⟩:=hs pt4 ow4 hag';have key:∀l vs,Rs ⟨zo w M,pt4,ow4⟩ l vs->Rs ⟨zo w M,pt3,ow3⟩ (rnL d l) vs:=
   Rs.rn (ρ:=⟨zo w M,pt4,ow4⟩) (ρ':=⟨zo w M,pt3,ow3⟩) (fun _ _ h=>h) hp4 ho4 (ho41.trans (had.2.trans hoN_d).symm)
  refine⟨key _ _ h2,fun i l b cs Ty hl hb hcs=>?_⟩;have e1:i≠d:=fun e1=>by subst e1;rw[hget_d]at hl;cases hl
  have e2:i≠d+100000:=fun e2=>by subst e2;rw[hget_1]at hl;cases hl
  rw[hget_n i e1 e2]at hl;split at hl
  .rename_i l' hl';cases hl
   exact key _ _ (h3 i l' b cs Ty hl' hb hcs)
  .rename_i hne;exact absurd hl (hne l)
theorem yx:∀ {ds:List Nat}{Y:St}{K:St->Prop},Rel c Y a w->xk ds Y K->∃σ',Rel c σ' a w/\K σ'
 | [],Y,K,h,hk=>⟨Y,h,hk⟩
 |d::ds,Y,K,h,hk=>by
  simp only[xk]at hk;split at hk
  .rename_i e k xs h1 h0 hm hlo;rw[vf,um]at hk;exact yx (h.rename h1 h0 ((wy _ _).1 hm) (Nat.le_of_ble_eq_true hlo)) hk
  .exact yx h hk
theorem zjn:∀(l:List AV)(d:Nat)(u:AV),l[d]? =some u->l.set d u=l
 | [],_,_,h=>by simp at h
 |x::l,0,u,h=>by simp at h;subst h;rfl
 |x::l,d+1,u,h=>by simp at h;simp[zjn l d u h]
theorem jw{ops:Array Oper}{o:Oper}{run skip:St->Prop}(h:Rel c Y a w)(hk:zat ops.toList o Y run skip):
 (q0 o (yielded ops a.tmps)=true/\run Y)\/(q0 o (yielded ops a.tmps)=false/\skip Y):=by
 unfold zat at hk;split at hk
 .rename_i hn;exact .inl ⟨by simp[q0,hn],hk⟩
 .rename_i j want hgd;split at hk
  .exact hk.elim
  .rename_i oj hoj;split at hk
   .exact hk.elim
   .rename_i d hd;obtain⟨_,_,_,_,_,_,hr⟩:=h.own;have hoj':ops[j]? =some oj:=by simpa using hoj
    split at hk
    .rename_i b hb;have hb':Y.sl[d]? =some (.bool b):=by
      rw[List.getD_eq_getElem?_getD]at hb
      cases hq:Y.sl[d]? with
      |none=>rw[hq]at hb;cases hb
      |some u=>rw[hq]at hb;simp at hb;rw[hb]
     obtain⟨v,hv,hrv⟩:=hr.get hb';simp only[R]at hrv;subst hrv;have hv':a.tmps[d]? =some (.bool b):=by simpa using hv
     have hy:yielded ops a.tmps j=some b:=by simp[yielded,hoj',hd,hv']
     have hst:(⟨Y.sl.set d (.bool b),Y.hp⟩:St)=Y:=by rw[zjn _ _ _ hb']
     have hwant:q0 o (yielded ops a.tmps)=(b==want):=by simp[q0,hgd,hy]
     rw[hwant];cases b<;>cases want<;>(simp only[zaa]at hk;rw[hst]at hk;simp[hk])
    .rename_i hb;have hb':Y.sl[d]? =some (.tup []):=by
      rw[List.getD_eq_getElem?_getD]at hb
      cases hq:Y.sl[d]? with
      |none=>rw[hq]at hb;cases hb
      |some u=>rw[hq]at hb;simp at hb;rw[hb]
     obtain⟨v,hv,hrv⟩:=hr.get hb';simp only[R]at hrv;obtain⟨vs,rfl,_⟩:=hrv;have hv':a.tmps[d]? =some (.tuple vs):=by simpa using hv
     have hy:yielded ops a.tmps j=none:=by simp[yielded,hoj',hd,hv']
     exact .inr ⟨by simp[q0,hgd,hy],hk⟩
    .exact hk.elim
theorem Rel.skip(h:Rel c Y a w)(o:Oper):Rel c ⟨match o.dst with
 |some d=>Y.sl.set d (.tup [])
 |none=>Y.sl,Y.hp⟩ (a.put o.dst undef) w:=by
 obtain⟨M,pt,ow,S,hg,hs,hd⟩:=h;refine⟨M,pt,ow,S,hg,fun pt' ow' hag=>?_,by rw[uf];exact hd⟩;obtain⟨h1,h2⟩:=hs pt' ow' hag;refine⟨?_,h2⟩
 cases o.dst with
 |none=>simpa[Act.put]using h1
 |some d=>rw[ue];exact h1.set (by simp only[R];exact⟨#[],rfl,by simp[Rs]⟩) d
theorem zdg(hT:TabOK P T){o:Oper}{K:St->Prop}(h:Rel c Y a w)(hk:zno T (CN P) o Y K):∃r bs,K (nxt o (nd T o Y) Y r bs)/\∀Q,o.wpIn F.F 0 P a w (Rel c (nxt o (nd T o Y) Y r bs)) Q:=by
 rw[zme]at hk;exact zl7 hT hk.1 h hk.2
theorem zii(hT:TabOK P T){o:Oper}{K:St->Prop}(h:Rel c Y a w)(hk:runK T (CN P) o Y K):∃σ',K σ'/\∀Q,o.wpIn F.F 0 P a w (Rel c σ') Q:=by
 unfold runK at hk;split at hk
 .obtain⟨r,bs,h1,h2⟩:=zdg hT h hk;exact⟨_,h1,h2⟩
 .obtain⟨σ1,hr,hk1⟩:=xc h hk;obtain⟨r,bs,h1,h2⟩:=zdg hT hr hk1;exact⟨_,h1,h2⟩
theorem zcc(hT:TabOK P T){ops:Array Oper}{Q:Exit->Act->World->Prop}{K:St->Prop}(hQ:∀Y a w,Rel c Y a w->K Y->Q .normal a w):
 ∀(l:List Oper)(Y:St)(a:Act)(w:World),Rel c Y a w->zyi T (CN P) ops.toList l Y K->wpListIn F.F 0 P ops Q l a w
 | [],Y,a,w,h,hk=>wpListIn_nil (hQ Y a w h hk)
 |o::rest,Y,a,w,h,hk=>by
  simp only[zyi,opK1]at hk;refine wpListIn_step fun K' hK'=>?_
  rcases jw h hk with ⟨hw,hk⟩|⟨hw,hk⟩
  .rw[Z6 hw];obtain⟨σ',hk',hwp⟩:=zii hT h hk;exact Oper.wpIn_mono (fun a' w' hr=>hK' _ _ (zcc hT hQ rest σ' a' w' hr hk')) (hwp Q)
  .rw[Z7 (by rw[hw];simp)];rw[zaa]at hk;exact⟨fun f _=>F.ok.fn f,hK' _ _ (zcc hT hQ rest _ _ _ (h.skip o) hk)⟩
end
