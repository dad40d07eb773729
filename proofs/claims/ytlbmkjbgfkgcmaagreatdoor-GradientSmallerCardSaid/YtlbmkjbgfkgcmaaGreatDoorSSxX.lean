/- A contract holds under other numbers of the blocks. -/
import Derived.Test.YtlbmkjbgfkgcmaaGreatDoorSSxT
set_option linter.all false
open Nat renaming beq->q0,le_refl->q1,blt_eq->q2
namespace Go.Sx
open Go
def sw:List (Nat×Nat)->Nat->Nat
 | [],i=>i
 |(a,b)::l,i=>match q0 i a with
  |true=>b
  |false=>match q0 i b with
   |true=>a
   |false=>sw l i
def zl3(i:Nat):List (Nat×Nat)->Bool
 | []=>false
 |(a,b)::l=>q0 i a||q0 i b||zl3 i l
def zzb:List (Nat×Nat)->Bool
 | []=>true
 |(a,b)::l=>Nat.blt a 1999999&&Nat.blt b 1999999&& !zl3 a l&& !zl3 b l&&zzb l
theorem zq0:∀ {l:List (Nat×Nat)}{i:Nat},zl3 i l=false->sw l i=i
 | [],_,_=>rfl
 |(a,b)::l,i,h=>by
  simp only[zl3,Bool.or_eq_false_iff]at h;simp only[sw,h.1.1,h.1.2];exact zq0 h.2
theorem zy9:∀ {l:List (Nat×Nat)}{i:Nat},zl3 i l=true->zl3 (sw l i) l=true
 | [],_,h=>by simp[zl3]at h
 |(a,b)::l,i,h=>by
  simp only[sw]
  cases h1:q0 i a with
  |true=>simp[zl3,(zb b b).2 rfl]
  |false=>cases h2:q0 i b with
   |true=>simp[zl3,(zb a a).2 rfl]
   |false=>
    simp only[zl3,h1,h2,Bool.false_or]at h;simp[zl3,zy9 h]
theorem zy8:∀ {l:List (Nat×Nat)}(i:Nat),zzb l=true->sw l (sw l i)=i
 | [],_,_=>rfl
 |(a,b)::l,i,h=>by
  simp only[zzb,Bool.and_eq_true,Bool.not_eq_true']at h;obtain⟨⟨⟨⟨_,_⟩,ha⟩,hb⟩,hl⟩:=h;have ha':∀j,zl3 j l=true->q0 j a=false:=fun j hj=>by
   cases e:q0 j a with
   |false=>rfl
   |true=>rw[(zb j a).1 e,ha]at hj;cases hj
  have hb':∀j,zl3 j l=true->q0 j b=false:=fun j hj=>by
   cases e:q0 j b with
   |false=>rfl
   |true=>rw[(zb j b).1 e,hb]at hj;cases hj
  cases h1:q0 i a with
  |true=>
   simp only[sw,h1,(zb b b).2 rfl];rw[(zb i a).1 h1]
   cases e:q0 b a with
   |false=>rfl
   |true=>exact(zb b a).1 e
  |false=>cases h2:q0 i b with
   |true=>simp only[sw,h1,h2,(zb a a).2 rfl];exact((zb i b).1 h2).symm
   |false=>
    simp only[sw,h1,h2]
    cases h3:zl3 i l with
    |false=>rw[zq0 h3,h1,h2];exact zq0 h3
    |true=>simp only[ha' _ (zy9 h3),hb' _ (zy9 h3)];exact zy8 i hl
theorem zza:∀ {l:List (Nat×Nat)}{i:Nat},zzb l=true->1999999<=i->sw l i=i
 | [],_,_,_=>rfl
 |(a,b)::l,i,h,hi=>by
  simp only[zzb,Bool.and_eq_true,Bool.not_eq_true']at h;obtain⟨⟨⟨⟨h1,h2⟩,_⟩,_⟩,hl⟩:=h;have h1:a<1999999:=by simpa[q2]using h1
  have h2:b<1999999:=by simpa[q2]using h2
  have e1:q0 i a=false:=(zr i a).2 O;have e2:q0 i b=false:=(zr i b).2 O;simp only[sw,e1,e2];exact zza hl hi
theorem wx(f g:Nat->Nat)(hgf:∀i,g (f i)=i):∀ {H:Hp}{i:Nat},hget (zfj f H) (f i)=(hget H i).mapI f
 | [],i=>rfl
 |(j,b)::r,i=>by
  simp only[zfj];rw[zd,zd];by_cases e:j=i
  .rw[Z6 e,Z6 (by rw[e])]
  .rw[Z7 e,Z7 fun e'=>e (by rw[<-hgf j,e',hgf])];exact wx f g hgf
section
variable {P:Program} {g:Nat} {H H':Hp} {A:List AV} {r:AV}
theorem Core.unmap{M:Nat->Prop}{pt:Nat->Option Nat}{ow:Nat->Option Value}{S:Nat->Prop}{w:World}(f:Nat->Nat)(hff:∀i,f (f i)=i)(hhi:∀i,1999999<=i->f i=i)(h:Core M pt ow S (zfj f H) w):
 Core M (fun i=>pt (f i)) (fun i=>ow (f i)) S H w:=by
 have hg:∀i,hget (zfj f H) (f i)=(hget H i).mapI f:=fun i=>wx f f hff
 have hbl:∀i,bl (fun i=>pt (f i)) (fun i=>ow (f i)) i=bl pt ow (f i):=fun i=>rfl
 refine⟨h.fresh,fun i b hb=>h.mt (f i) b hb,fun i j b hi hj=>?_,h.gm,fun i b hb=>h.gd (f i) b hb,fun i b hb=>?_,fun i x hx=>?_,fun i=>?_⟩
 .have:=h.inj (f i) (f j) b hi hj;rw[<-hff i,this,hff]
 .have:=h.dpt (f i) b hb;rw[hg,zam]at this;exact this
 .have:=h.dow (f i) x hx;rw[hg,yy]at this;exact this
 .have:=h.blk (f i);rw[hg]at this;exact this.unren f rfl rfl fun e=>by rw[<-hff i,e];exact hhi _ (q1 _)
theorem Core.domap{M:Nat->Prop}{pt:Nat->Option Nat}{ow:Nat->Option Value}{S:Nat->Prop}{w:World}(f:Nat->Nat)(hff:∀i,f (f i)=i)(hhi:∀i,1999999<=i->f i=i)(h:Core M pt ow S H w):
 Core M (fun i=>pt (f i)) (fun i=>ow (f i)) S (zfj f H) w:=by
 have hg:∀i,hget (zfj f H) i=(hget H (f i)).mapI f:=fun i=>by
  have:=wx (H:=H) (i:=f i) f f hff
  rwa [hff]at this
 refine⟨h.fresh,fun i b hb=>h.mt (f i) b hb,fun i j b hi hj=>?_,h.gm,fun i b hb=>h.gd (f i) b hb,fun i b hb=>?_,fun i x hx=>?_,fun i=>?_⟩
 .have:=h.inj (f i) (f j) b hi hj;rw[<-hff i,this,hff]
 .have:=h.dpt (f i) b hb;rw[hg,zam];exact this
 .have:=h.dow (f i) x hx;rw[hg,yy];exact this
 .have:=h.blk (f i);rw[hg];exact this.ren f rfl rfl fun e=>⟨by rw[<-hff i,e];exact hhi _ (q1 _),rfl⟩
theorem zeu.unmap{M:Nat->Prop}{pt:Nat->Option Nat}{ow:Nat->Option Value}{w:World}(f:Nat->Nat)(hff:∀i,f (f i)=i)(h:zeu (zfj f H) w M pt ow pt ow):
 zeu H w M (fun i=>pt (f i)) (fun i=>ow (f i)) (fun i=>pt (f i)) (fun i=>ow (f i)):=by
 intro i l b cs T hl hb hc;have:=h (f i) (xy f l) b cs T (by rw[wx f f hff,hl];rfl) hb hc;exact(Rs.mapI l _ fun i _=>⟨rfl,rfl⟩).1 this
theorem zeu.domap{M:Nat->Prop}{pt:Nat->Option Nat}{ow:Nat->Option Value}{w:World}(f:Nat->Nat)(hff:∀i,f (f i)=i)(h:zeu H w M pt ow pt ow):
 zeu (zfj f H) w M (fun i=>pt (f i)) (fun i=>ow (f i)) (fun i=>pt (f i)) (fun i=>ow (f i)):=by
 intro i l b cs T hl hb hc;have hg:=wx (H:=H) (i:=f i) f f hff;rw[hff,hl]at hg;obtain⟨m,hm,rfl⟩:=zb4 hg.symm;have:=h (f i) m b cs T hm hb hc;exact(Rs.mapI m _ fun i _=>by simp only[hff];exact⟨trivial,trivial⟩).2 this
theorem zhk.sw(l:List (Nat×Nat))(hl:zzb l=true)(h:zhk P g H A r H'):zhk P g (zfj (sw l) H) (xy (sw l) A) (r.mapI (sw l)) (zfj (sw l) H'):=by
 have hff:∀i,Sx.sw l (Sx.sw l i)=i:=fun i=>zy8 i hl
 have hhi:∀i,1999999<=i->Sx.sw l i=i:=fun i hi=>zza hl hi
 generalize Sx.sw l=f at hff hhi;refine⟨h.1,fun w M pt ow S vs hcore hcont hargs=>?_⟩;refine(h.2 w M _ _ S vs (hcore.unmap f hff hhi) (hcont.unmap f hff) ((Rs.mapI A vs fun i _=>⟨rfl,rfl⟩).1 hargs)).mono ?_;rintro e w' ⟨v,M',pt',ow',S',he,hc,hk,hr,hL⟩;refine⟨v,M',fun i=>pt' (f i),fun i=>ow' (f i),S',he,hc.domap f hff hhi,hk.domap f hff,?_,?_⟩
 .exact(R.mapI r v fun i _=>by simp only[hff];exact⟨trivial,trivial⟩).2 hr
 .refine⟨hL.os,hL.tape,hL.output,hL.size,fun b hb hn hs=>hL.same b hb (fun i=>hn (f i)) hs,hL.mm,hL.mn,hL.sn,fun i b hb=>?_,fun i x hx=>?_⟩
  .rcases hL.lept (f i) b hb with h1|⟨h1,h2⟩
   .simp only[hff]at h1;exact .inl h1
   .have:=hhi (f i) O;rw[hff]at this;exact .inr ⟨h1,O⟩
  .rcases hL.leow (f i) x hx with h1|⟨h1,h2⟩
   .simp only[hff]at h1;exact .inl h1
   .have:=hhi (f i) O;rw[hff]at this;refine .inr ⟨fun b hb=>(h1 b hb).imp id fun⟨j,hj⟩=>⟨f j,?_⟩,O⟩;simpa only[bl,hff]using hj
end
