/- A contract holds under other numbers of the blocks. -/
import Derived.Test.YtlbmkjbgfkgcmaaGreatDoorTSxT
set_option linter.all false
open Nat renaming beq->q0,le_refl->q1,blt_eq->q2
namespace Go.Sx
open Go
def sw:List (Nat×Nat)->Nat->Nat
 | [],i=>i
 |(a,b)::l,i=>match q0 i a with
  |true=>b
  |false=>match q0 i b with
   |true=>a
   |false=>sw l i
def zmr(i:Nat):List (Nat×Nat)->Bool
 | []=>false
 |(a,b)::l=>q0 i a||q0 i b||zmr i l
def zzy:List (Nat×Nat)->Bool
 | []=>true
 |(a,b)::l=>Nat.blt a 1999999&&Nat.blt b 1999999&& !zmr a l&& !zmr b l&&zzy l
theorem zrn:∀ {l:List (Nat×Nat)}{i:Nat},zmr i l=false->sw l i=i
 | [],_,_=>rfl
 |(a,b)::l,i,h=>by
  simp only[zmr,Bool.or_eq_false_iff]at h;simp only[sw,h.1.1,h.1.2];exact zrn h.2
theorem zzw:∀ {l:List (Nat×Nat)}{i:Nat},zmr i l=true->zmr (sw l i) l=true
 | [],_,h=>by simp[zmr]at h
 |(a,b)::l,i,h=>by
  simp only[sw]
  cases h1:q0 i a with
  |true=>simp[zmr,(zd b b).2 rfl]
  |false=>cases h2:q0 i b with
   |true=>simp[zmr,(zd a a).2 rfl]
   |false=>
    simp only[zmr,h1,h2,Bool.false_or]at h;simp[zmr,zzw h]
theorem zvq:∀ {l:List (Nat×Nat)}(i:Nat),zzy l=true->sw l (sw l i)=i
 | [],_,_=>rfl
 |(a,b)::l,i,h=>by
  simp only[zzy,Bool.and_eq_true,Bool.not_eq_true']at h;obtain⟨⟨⟨⟨_,_⟩,ha⟩,hb⟩,hl⟩:=h;have ha':∀j,zmr j l=true->q0 j a=false:=fun j hj=>by
   cases e:q0 j a with
   |false=>rfl
   |true=>rw[(zd j a).1 e,ha]at hj;cases hj
  have hb':∀j,zmr j l=true->q0 j b=false:=fun j hj=>by
   cases e:q0 j b with
   |false=>rfl
   |true=>rw[(zd j b).1 e,hb]at hj;cases hj
  cases h1:q0 i a with
  |true=>
   simp only[sw,h1,(zd b b).2 rfl];rw[(zd i a).1 h1]
   cases e:q0 b a with
   |false=>rfl
   |true=>exact(zd b a).1 e
  |false=>cases h2:q0 i b with
   |true=>simp only[sw,h1,h2,(zd a a).2 rfl];exact((zd i b).1 h2).symm
   |false=>
    simp only[sw,h1,h2]
    cases h3:zmr i l with
    |false=>rw[zrn h3,h1,h2];exact zrn h3
    |true=>simp only[ha' _ (zzw h3),hb' _ (zzw h3)];exact zvq i hl
theorem zzx:∀ {l:List (Nat×Nat)}{i:Nat},zzy l=true->1999999<=i->sw l i=i
 | [],_,_,_=>rfl
 |(a,b)::l,i,h,hi=>by
  simp only[zzy,Bool.and_eq_true,Bool.not_eq_true']at h;obtain⟨⟨⟨⟨h1,h2⟩,_⟩,_⟩,hl⟩:=h;have h1:a<1999999:=by simpa[q2]using h1
  have h2:b<1999999:=by simpa[q2]using h2
  have e1:q0 i a=false:=(zt i a).2 O;have e2:q0 i b=false:=(zt i b).2 O;simp only[sw,e1,e2];exact zzx hl hi
theorem jg(f g:Nat->Nat)(hgf:∀i,g (f i)=i):∀ {H:Hp}{i:Nat},hget (zew f H) (f i)=(hget H i).mapI f
 | [],i=>rfl
 |(j,b)::r,i=>by
  simp only[zew];rw[zf,zf];by_cases e:j=i
  .rw[Z6 e,Z6 (by rw[e])]
  .rw[Z7 e,Z7 fun e'=>e (by rw[<-hgf j,e',hgf])];exact jg f g hgf
section
variable {P:Program} {g:Nat} {H H':Hp} {A:List AV} {r:AV}
theorem Core.unmap{M:Nat->Prop}{pt:Nat->Option Nat}{ow:Nat->Option Value}{S:Nat->Prop}{w:World}(f:Nat->Nat)(hff:∀i,f (f i)=i)(hhi:∀i,1999999<=i->f i=i)(h:Core M pt ow S (zew f H) w):
 Core M (fun i=>pt (f i)) (fun i=>ow (f i)) S H w:=by
 have hg:∀i,hget (zew f H) (f i)=(hget H i).mapI f:=fun i=>jg f f hff
 have hbl:∀i,bl (fun i=>pt (f i)) (fun i=>ow (f i)) i=bl pt ow (f i):=fun i=>rfl
 refine⟨h.fresh,fun i b hb=>h.mt (f i) b hb,fun i j b hi hj=>?_,h.gm,fun i b hb=>h.gd (f i) b hb,fun i b hb=>?_,fun i x hx=>?_,fun i=>?_⟩
 .have:=h.inj (f i) (f j) b hi hj;rw[<-hff i,this,hff]
 .have:=h.dpt (f i) b hb;rw[hg,zap]at this;exact this
 .have:=h.dow (f i) x hx;rw[hg,xe]at this;exact this
 .have:=h.blk (f i);rw[hg]at this;exact this.unren f rfl rfl fun e=>by rw[<-hff i,e];exact hhi _ (q1 _)
theorem Core.domap{M:Nat->Prop}{pt:Nat->Option Nat}{ow:Nat->Option Value}{S:Nat->Prop}{w:World}(f:Nat->Nat)(hff:∀i,f (f i)=i)(hhi:∀i,1999999<=i->f i=i)(h:Core M pt ow S H w):
 Core M (fun i=>pt (f i)) (fun i=>ow (f i)) S (zew f H) w:=by
 have hg:∀i,hget (zew f H) i=(hget H (f i)).mapI f:=fun i=>by
  have:=jg (H:=H) (i:=f i) f f hff
  rwa [hff]at this
 refine⟨h.fresh,fun i b hb=>h.mt (f i) b hb,fun i j b hi hj=>?_,h.gm,fun i b hb=>h.gd (f i) b hb,fun i b hb=>?_,fun i x hx=>?_,fun i=>?_⟩
 .have:=h.inj (f i) (f j) b hi hj;rw[<-hff i,this,hff]
 .have:=h.dpt (f i) b hb;rw[hg,zap];exact this
 .have:=h.dow (f i) x hx;rw[hg,xe];exact this
 .have:=h.blk (f i);rw[hg];exact this.ren f rfl rfl fun e=>⟨by rw[<-hff i,e];exact hhi _ (q1 _),rfl⟩
theorem zfa.unmap{M:Nat->Prop}{pt:Nat->Option Nat}{ow:Nat->Option Value}{w:World}(f:Nat->Nat)(hff:∀i,f (f i)=i)(h:zfa (zew f H) w M pt ow pt ow):
 zfa H w M (fun i=>pt (f i)) (fun i=>ow (f i)) (fun i=>pt (f i)) (fun i=>ow (f i)):=by
 intro i l b cs T hl hb hc;have:=h (f i) (xw f l) b cs T (by rw[jg f f hff,hl];rfl) hb hc;exact(Rs.mapI l _ fun i _=>⟨rfl,rfl⟩).1 this
theorem zfa.domap{M:Nat->Prop}{pt:Nat->Option Nat}{ow:Nat->Option Value}{w:World}(f:Nat->Nat)(hff:∀i,f (f i)=i)(h:zfa H w M pt ow pt ow):
 zfa (zew f H) w M (fun i=>pt (f i)) (fun i=>ow (f i)) (fun i=>pt (f i)) (fun i=>ow (f i)):=by
 intro i l b cs T hl hb hc;have hg:=jg (H:=H) (i:=f i) f f hff;rw[hff,hl]at hg;obtain⟨m,hm,rfl⟩:=zch hg.symm;have:=h (f i) m b cs T hm hb hc;exact(Rs.mapI m _ fun i _=>by simp only[hff];exact⟨trivial,trivial⟩).2 this
theorem zh8.sw(l:List (Nat×Nat))(hl:zzy l=true)(h:zh8 P g H A r H'):zh8 P g (zew (sw l) H) (xw (sw l) A) (r.mapI (sw l)) (zew (sw l) H'):=by
 have hff:∀i,Sx.sw l (Sx.sw l i)=i:=fun i=>zvq i hl
 have hhi:∀i,1999999<=i->Sx.sw l i=i:=fun i hi=>zzx hl hi
 generalize Sx.sw l=f at hff hhi;refine⟨h.1,fun w M pt ow S vs hcore hcont hargs=>?_⟩;refine(h.2 w M _ _ S vs (hcore.unmap f hff hhi) (hcont.unmap f hff) ((Rs.mapI A vs fun i _=>⟨rfl,rfl⟩).1 hargs)).mono ?_;rintro e w' ⟨v,M',pt',ow',S',he,hc,hk,hr,hL⟩;refine⟨v,M',fun i=>pt' (f i),fun i=>ow' (f i),S',he,hc.domap f hff hhi,hk.domap f hff,?_,?_⟩
 .exact(R.mapI r v fun i _=>by simp only[hff];exact⟨trivial,trivial⟩).2 hr
 .refine⟨hL.os,hL.tape,hL.output,hL.size,fun b hb hn hs=>hL.same b hb (fun i=>hn (f i)) hs,hL.mm,hL.mn,hL.sn,fun i b hb=>?_,fun i x hx=>?_⟩
  .rcases hL.lept (f i) b hb with h1|⟨h1,h2⟩
   .simp only[hff]at h1;exact .inl h1
   .have:=hhi (f i) O;rw[hff]at this;exact .inr ⟨h1,O⟩
  .rcases hL.leow (f i) x hx with h1|⟨h1,h2⟩
   .simp only[hff]at h1;exact .inl h1
   .have:=hhi (f i) O;rw[hff]at this;refine .inr ⟨fun b hb=>(h1 b hb).imp id fun⟨j,hj⟩=>⟨f j,?_⟩,O⟩;simpa only[bl,hff]using hj
end
