/-
  A contract holds under other numbers of the blocks.
-/
import Derived.Test.YtlocddfailmnpaaGreatDoorQSxT
set_option linter.unusedVariables false
set_option linter.unusedSimpArgs false
namespace Go.Sx
open Go
def sw:List (Nat×Nat)→Nat→Nat
 | [],i=>i
 |(a,b)::l,i=>match Nat.beq i a with
  |true=>b
  |false=>match Nat.beq i b with
   |true=>a
   |false=>sw l i
def zla (i:Nat):List (Nat×Nat)→Bool
 | []=>false
 |(a,b)::l=>Nat.beq i a||Nat.beq i b||zla i l
def zwo:List (Nat×Nat)→Bool
 | []=>true
 |(a,b)::l=>Nat.blt a 1999999&&Nat.blt b 1999999&& !zla a l&& !zla b l&&zwo l
theorem zql: ∀ {l:List (Nat×Nat)} {i:Nat},zla i l=false→sw l i=i
 | [],_,_=>rfl
 |(a,b)::l,i,h=>by
  simp only[zla,Bool.or_eq_false_iff]at h
  simp only[sw,h.1.1,h.1.2];exact zql h.2
theorem zx7: ∀ {l:List (Nat×Nat)} {i:Nat},zla i l=true→zla (sw l i) l=true
 | [],_,h=>by simp[zla]at h
 |(a,b)::l,i,h=>by
  simp only[sw]
  cases h1:Nat.beq i a with
  |true=>simp[zla,(za b b).2 rfl]
  |false=>cases h2:Nat.beq i b with
   |true=>simp[zla,(za a a).2 rfl]
   |false=>
    simp only[zla,h1,h2,Bool.false_or]at h
    simp[zla,zx7 h]
theorem zqk: ∀ {l:List (Nat×Nat)} (i:Nat),zwo l=true→sw l (sw l i)=i
 | [],_,_=>rfl
 |(a,b)::l,i,h=>by
  simp only[zwo,Bool.and_eq_true,Bool.not_eq_true']at h
  obtain⟨⟨⟨⟨_,_⟩,ha⟩,hb⟩,hl⟩:=h
  have ha': ∀j,zla j l=true→Nat.beq j a=false:=fun j hj=>by
   cases e:Nat.beq j a with
   |false=>rfl
   |true=>rw[(za j a).1 e,ha]at hj;cases hj
  have hb': ∀j,zla j l=true→Nat.beq j b=false:=fun j hj=>by
   cases e:Nat.beq j b with
   |false=>rfl
   |true=>rw[(za j b).1 e,hb]at hj;cases hj
  cases h1:Nat.beq i a with
  |true=>
   simp only[sw,h1,(za b b).2 rfl]
   rw[(za i a).1 h1]
   cases e:Nat.beq b a with
   |false=>rfl
   |true=>exact(za b a).1 e
  |false=>cases h2:Nat.beq i b with
   |true=>simp only[sw,h1,h2,(za a a).2 rfl];exact((za i b).1 h2).symm
   |false=>
    simp only[sw,h1,h2]
    cases h3:zla i l with
    |false=>rw[zql h3,h1,h2];exact zql h3
    |true=>simp only[ha' _ (zx7 h3),hb' _ (zx7 h3)];exact zqk i hl
theorem zuh: ∀ {l:List (Nat×Nat)} {i:Nat},zwo l=true→1999999≤i→sw l i=i
 | [],_,_,_=>rfl
 |(a,b)::l,i,h,hi=>by
  simp only[zwo,Bool.and_eq_true,Bool.not_eq_true']at h
  obtain⟨⟨⟨⟨h1,h2⟩,_⟩,_⟩,hl⟩:=h
  have h1:a<1999999:=by simpa[Nat.blt_eq]using h1
  have h2:b<1999999:=by simpa[Nat.blt_eq]using h2
  have e1:Nat.beq i a=false:=(zo i a).2 (by omega)
  have e2:Nat.beq i b=false:=(zo i b).2 (by omega)
  simp only[sw,e1,e2];exact zuh hl hi
theorem wp (f g:Nat→Nat) (hgf: ∀i,g (f i)=i): ∀ {H:Hp} {i:Nat},hget (zcp f H) (f i)=(hget H i).mapI f
 | [],i=>rfl
 |(j,b)::r,i=>by
  simp only[zcp]
  rw[zd,zd]
  by_cases e:j=i
  ·rw[if_pos e,if_pos (by rw[e])]
  ·rw[if_neg e,if_neg fun e'=>e (by rw[←hgf j,e',hgf])]
   exact wp f g hgf
section
variable {P:Program} {g:Nat} {H H':Hp} {A:List AV} {r:AV}
theorem Core.unmap {M:Nat→Prop} {pt:Nat→Option Nat} {ow:Nat→Option Value} {S:Nat→Prop} {w:World} (f:Nat→Nat) (hff: ∀i,f (f i)=i) (hhi: ∀i,1999999≤i→f i=i) (h:Core M pt ow S (zcp f H) w):
 Core M (fun i=>pt (f i)) (fun i=>ow (f i)) S H w:=by
 have hg: ∀i,hget (zcp f H) (f i)=(hget H i).mapI f:=fun i=>wp f f hff
 have hbl: ∀i,bl (fun i=>pt (f i)) (fun i=>ow (f i)) i=bl pt ow (f i):=fun i=>rfl
 refine⟨h.fresh,fun i b hb=>h.mt (f i) b hb,fun i j b hi hj=>?_,h.gm,fun i b hb=>h.gd (f i) b hb,fun i b hb=>?_,fun i x hx=>?_,fun i=>?_⟩
 ·have:=h.inj (f i) (f j) b hi hj
  rw[←hff i,this,hff]
 ·have:=h.dpt (f i) b hb;rw[hg,xk]at this;exact this
 ·have:=h.dow (f i) x hx;rw[hg,uw]at this;exact this
 ·have:=h.blk (f i);rw[hg]at this
  exact this.unren f rfl rfl fun e=>by rw[←hff i,e];exact hhi _ (Nat.le_refl _)
theorem Core.domap {M:Nat→Prop} {pt:Nat→Option Nat} {ow:Nat→Option Value} {S:Nat→Prop} {w:World} (f:Nat→Nat) (hff: ∀i,f (f i)=i) (hhi: ∀i,1999999≤i→f i=i) (h:Core M pt ow S H w):
 Core M (fun i=>pt (f i)) (fun i=>ow (f i)) S (zcp f H) w:=by
 have hg: ∀i,hget (zcp f H) i=(hget H (f i)).mapI f:=fun i=>by
  have:=wp (H:=H) (i:=f i) f f hff
  rwa [hff]at this
 refine⟨h.fresh,fun i b hb=>h.mt (f i) b hb,fun i j b hi hj=>?_,h.gm,fun i b hb=>h.gd (f i) b hb,fun i b hb=>?_,fun i x hx=>?_,fun i=>?_⟩
 ·have:=h.inj (f i) (f j) b hi hj
  rw[←hff i,this,hff]
 ·have:=h.dpt (f i) b hb;rw[hg,xk];exact this
 ·have:=h.dow (f i) x hx;rw[hg,uw];exact this
 ·have:=h.blk (f i);rw[hg]
  exact this.ren f rfl rfl fun e=>⟨by rw[←hff i,e];exact hhi _ (Nat.le_refl _),rfl⟩
theorem zdq.unmap {M:Nat→Prop} {pt:Nat→Option Nat} {ow:Nat→Option Value} {w:World} (f:Nat→Nat) (hff: ∀i,f (f i)=i) (h:zdq (zcp f H) w M pt ow pt ow):
 zdq H w M (fun i=>pt (f i)) (fun i=>ow (f i)) (fun i=>pt (f i)) (fun i=>ow (f i)):=by
 intro i l b cs T hl hb hc
 have:=h (f i) (yf f l) b cs T (by rw[wp f f hff,hl];rfl) hb hc
 exact(Rs.mapI l _ fun i _=>⟨rfl,rfl⟩).1 this
theorem zdq.domap {M:Nat→Prop} {pt:Nat→Option Nat} {ow:Nat→Option Value} {w:World} (f:Nat→Nat) (hff: ∀i,f (f i)=i) (h:zdq H w M pt ow pt ow):
 zdq (zcp f H) w M (fun i=>pt (f i)) (fun i=>ow (f i)) (fun i=>pt (f i)) (fun i=>ow (f i)):=by
 intro i l b cs T hl hb hc
 have hg:=wp (H:=H) (i:=f i) f f hff
 rw[hff,hl]at hg
 obtain⟨m,hm,rfl⟩:=za8 hg.symm
 have:=h (f i) m b cs T hm hb hc
 exact(Rs.mapI m _ fun i _=>by simp only[hff];exact⟨trivial,trivial⟩).2 this
theorem zd3.sw (l:List (Nat×Nat)) (hl:zwo l=true) (h:zd3 P g H A r H'):zd3 P g (zcp (sw l) H) (yf (sw l) A) (r.mapI (sw l)) (zcp (sw l) H'):=by
 have hff: ∀i,Sx.sw l (Sx.sw l i)=i:=fun i=>zqk i hl
 have hhi: ∀i,1999999≤i→Sx.sw l i=i:=fun i hi=>zuh hl hi
 generalize Sx.sw l=f at hff hhi
 refine⟨h.1,fun w M pt ow S vs hcore hcont hargs=>?_⟩
 refine(h.2 w M _ _ S vs (hcore.unmap f hff hhi) (hcont.unmap f hff) ((Rs.mapI A vs fun i _=>⟨rfl,rfl⟩).1 hargs)).mono ?_
 rintro e w' ⟨v,M',pt',ow',S',he,hc,hk,hr,hL⟩
 refine⟨v,M',fun i=>pt' (f i),fun i=>ow' (f i),S',he,hc.domap f hff hhi,hk.domap f hff,?_,?_⟩
 ·exact(R.mapI r v fun i _=>by simp only[hff];exact⟨trivial,trivial⟩).2 hr
 ·refine⟨hL.os,hL.tape,hL.output,hL.size,fun b hb hn hs=>hL.same b hb (fun i=>hn (f i)) hs,hL.mm,hL.mn,hL.sn,fun i b hb=>?_,fun i x hx=>?_⟩
  ·rcases hL.lept (f i) b hb with h1|⟨h1,h2⟩
   ·simp only[hff]at h1;exact .inl h1
   ·have:=hhi (f i) (by omega);rw[hff]at this;exact .inr ⟨h1,by omega⟩
  ·rcases hL.leow (f i) x hx with h1|⟨h1,h2⟩
   ·simp only[hff]at h1;exact .inl h1
   ·have:=hhi (f i) (by omega)
    rw[hff]at this
    refine .inr ⟨fun b hb=>(h1 b hb).imp id fun⟨j,hj⟩=>⟨f j,?_⟩,by omega⟩
    simpa only[bl,hff]using hj
end
end Go.Sx
