/-
  A contract holds under other numbers of the blocks.
-/
import Derived.Test.YtgehdbenidimlaaGreatDoorQSxT
set_option linter.unusedVariables false
set_option linter.unusedSimpArgs false
namespace Go.Sx
open Go
def sw:List (Nat×Nat)->Nat->Nat
 | [],i=>i
 |(a,b)::l,i=>match Nat.beq i a with
  |true=>b
  |false=>match Nat.beq i b with
   |true=>a
   |false=>sw l i
def zmm (i:Nat):List (Nat×Nat)->Bool
 | []=>false
 |(a,b)::l=>Nat.beq i a||Nat.beq i b||zmm i l
def zzt:List (Nat×Nat)->Bool
 | []=>true
 |(a,b)::l=>Nat.blt a 1999999&&Nat.blt b 1999999&& !zmm a l&& !zmm b l&&zzt l
theorem zq9: ∀ {l:List (Nat×Nat)} {i:Nat},zmm i l=false->sw l i=i
 | [],_,_=>rfl
 |(a,b)::l,i,h=>by
  simp only[zmm,Bool.or_eq_false_iff]at h;simp only[sw,h.1.1,h.1.2];exact zq9 h.2
theorem zzr: ∀ {l:List (Nat×Nat)} {i:Nat},zmm i l=true->zmm (sw l i) l=true
 | [],_,h=>by simp[zmm]at h
 |(a,b)::l,i,h=>by
  simp only[sw]
  cases h1:Nat.beq i a with
  |true=>simp[zmm,(zb b b).2 rfl]
  |false=>cases h2:Nat.beq i b with
   |true=>simp[zmm,(zb a a).2 rfl]
   |false=>
    simp only[zmm,h1,h2,Bool.false_or]at h;simp[zmm,zzr h]
theorem zzq: ∀ {l:List (Nat×Nat)} (i:Nat),zzt l=true->sw l (sw l i)=i
 | [],_,_=>rfl
 |(a,b)::l,i,h=>by
  simp only[zzt,Bool.and_eq_true,Bool.not_eq_true']at h;obtain⟨⟨⟨⟨_,_⟩,ha⟩,hb⟩,hl⟩:=h;have ha': ∀j,zmm j l=true->Nat.beq j a=false:=fun j hj=>by
   cases e:Nat.beq j a with
   |false=>rfl
   |true=>rw[(zb j a).1 e,ha]at hj;cases hj
  have hb': ∀j,zmm j l=true->Nat.beq j b=false:=fun j hj=>by
   cases e:Nat.beq j b with
   |false=>rfl
   |true=>rw[(zb j b).1 e,hb]at hj;cases hj
  cases h1:Nat.beq i a with
  |true=>
   simp only[sw,h1,(zb b b).2 rfl];rw[(zb i a).1 h1]
   cases e:Nat.beq b a with
   |false=>rfl
   |true=>exact(zb b a).1 e
  |false=>cases h2:Nat.beq i b with
   |true=>simp only[sw,h1,h2,(zb a a).2 rfl];exact((zb i b).1 h2).symm
   |false=>
    simp only[sw,h1,h2]
    cases h3:zmm i l with
    |false=>rw[zq9 h3,h1,h2];exact zq9 h3
    |true=>simp only[ha' _ (zzr h3),hb' _ (zzr h3)];exact zzq i hl
theorem zzs: ∀ {l:List (Nat×Nat)} {i:Nat},zzt l=true->1999999<=i->sw l i=i
 | [],_,_,_=>rfl
 |(a,b)::l,i,h,hi=>by
  simp only[zzt,Bool.and_eq_true,Bool.not_eq_true']at h;obtain⟨⟨⟨⟨h1,h2⟩,_⟩,_⟩,hl⟩:=h;have h1:a<1999999:=by simpa[Nat.blt_eq]using h1
  have h2:b<1999999:=by simpa[Nat.blt_eq]using h2
  have e1:Nat.beq i a=false:=(zp i a).2 (by omega);have e2:Nat.beq i b=false:=(zp i b).2 (by omega);simp only[sw,e1,e2];exact zzs hl hi
theorem wo (f g:Nat->Nat) (hgf: ∀i,g (f i)=i): ∀ {H:Hp} {i:Nat},hget (zfo f H) (f i)=(hget H i).mapI f
 | [],i=>rfl
 |(j,b)::r,i=>by
  simp only[zfo];rw[zd,zd];by_cases e:j=i
  ·rw[if_pos e,if_pos (by rw[e])]
  ·rw[if_neg e,if_neg fun e'=>e (by rw[←hgf j,e',hgf])];exact wo f g hgf
section
variable {P:Program} {g:Nat} {H H':Hp} {A:List AV} {r:AV}
theorem Core.unmap {M:Nat->Prop} {pt:Nat->Option Nat} {ow:Nat->Option Value} {S:Nat->Prop} {w:World} (f:Nat->Nat) (hff: ∀i,f (f i)=i) (hhi: ∀i,1999999<=i->f i=i) (h:Core M pt ow S (zfo f H) w):
 Core M (fun i=>pt (f i)) (fun i=>ow (f i)) S H w:=by
 have hg: ∀i,hget (zfo f H) (f i)=(hget H i).mapI f:=fun i=>wo f f hff
 have hbl: ∀i,bl (fun i=>pt (f i)) (fun i=>ow (f i)) i=bl pt ow (f i):=fun i=>rfl
 refine⟨h.fresh,fun i b hb=>h.mt (f i) b hb,fun i j b hi hj=>?_,h.gm,fun i b hb=>h.gd (f i) b hb,fun i b hb=>?_,fun i x hx=>?_,fun i=>?_⟩
 ·have:=h.inj (f i) (f j) b hi hj;rw[←hff i,this,hff]
 ·have:=h.dpt (f i) b hb;rw[hg,zae]at this;exact this
 ·have:=h.dow (f i) x hx;rw[hg,ym]at this;exact this
 ·have:=h.blk (f i);rw[hg]at this;exact this.unren f rfl rfl fun e=>by rw[←hff i,e];exact hhi _ (Nat.le_refl _)
theorem Core.domap {M:Nat->Prop} {pt:Nat->Option Nat} {ow:Nat->Option Value} {S:Nat->Prop} {w:World} (f:Nat->Nat) (hff: ∀i,f (f i)=i) (hhi: ∀i,1999999<=i->f i=i) (h:Core M pt ow S H w):
 Core M (fun i=>pt (f i)) (fun i=>ow (f i)) S (zfo f H) w:=by
 have hg: ∀i,hget (zfo f H) i=(hget H (f i)).mapI f:=fun i=>by
  have:=wo (H:=H) (i:=f i) f f hff
  rwa [hff]at this
 refine⟨h.fresh,fun i b hb=>h.mt (f i) b hb,fun i j b hi hj=>?_,h.gm,fun i b hb=>h.gd (f i) b hb,fun i b hb=>?_,fun i x hx=>?_,fun i=>?_⟩
 ·have:=h.inj (f i) (f j) b hi hj;rw[←hff i,this,hff]
 ·have:=h.dpt (f i) b hb;rw[hg,zae];exact this
 ·have:=h.dow (f i) x hx;rw[hg,ym];exact this
 ·have:=h.blk (f i);rw[hg];exact this.ren f rfl rfl fun e=>⟨by rw[←hff i,e];exact hhi _ (Nat.le_refl _),rfl⟩
theorem zen.unmap {M:Nat->Prop} {pt:Nat->Option Nat} {ow:Nat->Option Value} {w:World} (f:Nat->Nat) (hff: ∀i,f (f i)=i) (h:zen (zfo f H) w M pt ow pt ow):
 zen H w M (fun i=>pt (f i)) (fun i=>ow (f i)) (fun i=>pt (f i)) (fun i=>ow (f i)):=by
 intro i l b cs T hl hb hc;have:=h (f i) (xu f l) b cs T (by rw[wo f f hff,hl];rfl) hb hc;exact(Rs.mapI l _ fun i _=>⟨rfl,rfl⟩).1 this
theorem zen.domap {M:Nat->Prop} {pt:Nat->Option Nat} {ow:Nat->Option Value} {w:World} (f:Nat->Nat) (hff: ∀i,f (f i)=i) (h:zen H w M pt ow pt ow):
 zen (zfo f H) w M (fun i=>pt (f i)) (fun i=>ow (f i)) (fun i=>pt (f i)) (fun i=>ow (f i)):=by
 intro i l b cs T hl hb hc;have hg:=wo (H:=H) (i:=f i) f f hff;rw[hff,hl]at hg;obtain⟨m,hm,rfl⟩:=zbu hg.symm;have:=h (f i) m b cs T hm hb hc;exact(Rs.mapI m _ fun i _=>by simp only[hff];exact⟨trivial,trivial⟩).2 this
theorem zme.sw (l:List (Nat×Nat)) (hl:zzt l=true) (h:zme P g H A r H'):zme P g (zfo (sw l) H) (xu (sw l) A) (r.mapI (sw l)) (zfo (sw l) H'):=by
 have hff: ∀i,Sx.sw l (Sx.sw l i)=i:=fun i=>zzq i hl
 have hhi: ∀i,1999999<=i->Sx.sw l i=i:=fun i hi=>zzs hl hi
 generalize Sx.sw l=f at hff hhi;refine⟨h.1,fun w M pt ow S vs hcore hcont hargs=>?_⟩;refine(h.2 w M _ _ S vs (hcore.unmap f hff hhi) (hcont.unmap f hff) ((Rs.mapI A vs fun i _=>⟨rfl,rfl⟩).1 hargs)).mono ?_;rintro e w' ⟨v,M',pt',ow',S',he,hc,hk,hr,hL⟩;refine⟨v,M',fun i=>pt' (f i),fun i=>ow' (f i),S',he,hc.domap f hff hhi,hk.domap f hff,?_,?_⟩
 ·exact(R.mapI r v fun i _=>by simp only[hff];exact⟨trivial,trivial⟩).2 hr
 ·refine⟨hL.os,hL.tape,hL.output,hL.size,fun b hb hn hs=>hL.same b hb (fun i=>hn (f i)) hs,hL.mm,hL.mn,hL.sn,fun i b hb=>?_,fun i x hx=>?_⟩
  ·rcases hL.lept (f i) b hb with h1|⟨h1,h2⟩
   ·simp only[hff]at h1;exact .inl h1
   ·have:=hhi (f i) (by omega);rw[hff]at this;exact .inr ⟨h1,by omega⟩
  ·rcases hL.leow (f i) x hx with h1|⟨h1,h2⟩
   ·simp only[hff]at h1;exact .inl h1
   ·have:=hhi (f i) (by omega);rw[hff]at this;refine .inr ⟨fun b hb=>(h1 b hb).imp id fun⟨j,hj⟩=>⟨f j,?_⟩,by omega⟩;simpa only[bl,hff]using hj
end
end Go.Sx
