/- Building values; the world grows by a block; a block is written. -/
import Derived.Test.YtlbmkjbgfkgcmaaGreatDoorTSxG
import Derived.Great.BuildSlice
set_option linter.all false
open Array renaming length_toList->q0
open Go.Instr renaming fill->q2,build->q3
open Go.Result renaming andThen_ok->q1
namespace Go.Sx
open Go
def zar{α:Type}(l:List α)(off:Nat)(m:List α):List α:=l.take off++m++l.drop (off+m.length)
theorem zcl:∀(l:List AV)(off:Nat)(m:List AV)(k:List AV->Prop),lay l off m k->off+m.length<=l.length/\k (zar l off m)
 |l,0,[],k,h=>by cases l<;>(simp only[lay]at h;simpa[zar]using h)
 | _::l,0,b::m,k,h=>by
   simp only[lay]at h;obtain⟨h1,h2⟩:=zcl l 0 m _ h;simp only[zar,List.take_zero,List.nil_append,Nat.zero_add]at h1 h2⊢;exact⟨OE,by simpa using h2⟩
 | [],0,_::_,_,h=>by simp[lay]at h
 |a::l,off+1,m,k,h=>by
  simp only[lay]at h;obtain⟨h1,h2⟩:=zcl l off m _ h;refine⟨OE,?_⟩;have:zar (a::l) (off+1) m=a::zar l off m:=by
   simp only[zar,List.take_succ_cons,List.cons_append,List.append_assoc,List.cons.injEq,true_and];rw[show off+1+m.length=(off+m.length)+1 from O,List.drop_succ_cons]
  rw[this];exact h2
 | [],_+1,_,_,h=>by simp[lay]at h
theorem Rs.lay{ρ:Env}{l m:List AV}{vs us:List Value}(h:Rs ρ l vs)(h':Rs ρ m us)(off:Nat):Rs ρ (zar l off m) (zar vs off us):=by
 unfold zar;have:=h'.length;rw[this];exact((h.take off).append h').append (h.drop _)
theorem jf{α:Type}(l:List α)(off:Nat)(m:List α)(h:off+m.length<=l.length):(zar l off m).length =l.length:=by
 simp[zar];omega
theorem zl1:∀(vs:List Value)(off j:Nat)(cs:Array Value),off+j+vs.length<=cs.size->
 ((vs.zipIdx j).foldl (fun(cs:Array Value)(x:Value×Nat)=>cs.setIfInBounds (off+x.2) x.1) cs).toList =zar cs.toList (off+j) vs
 | [],off,j,cs,_=>by simp[zar]
 |v::vs,off,j,cs,h=>by
  simp only[List.length_cons]at h;rw[List.zipIdx_cons,List.foldl_cons,zl1 vs off (j+1) _ OE];have hlt:off+j<cs.toList.length:=OE;simp only[zar,Array.toList_setIfInBounds];refine List.ext_getElem? fun i=>?_
  have e1:off+(j+1)=off+j+1:=O;have e2:off+(j+1)+vs.length=off+j+(v::vs).length :=OE;rw[e2,e1];rw[List.drop_set_of_lt OC];have e3:(cs.toList.set (off+j) v).take (off+j+1)=cs.toList.take (off+j)++ [v]:=by
   rw[List.take_add_one,List.take_set_of_le (Nat.le_refl _),List.getElem?_set_self hlt];simp
  rw[e3];simp
theorem zkg(v:Value)(off:Nat)(cells:Array Value)(h:off+v.cells.size<=cells.size):
 (v.cells.zipIdx.foldl (fun(cs:Array Value)(x:Value×Nat)=>cs.setIfInBounds (off+x.2) x.1) cells).toList =zar cells.toList off v.cells.toList:=by
 have:=zl1 v.cells.toList off 0 cells (by simpa using h);rw[<-Array.foldl_toList,Array.toList_zipIdx];simpa using this
section
variable {P:Program} {T:Tab} {F:Wf} {C:Con} {c:Ctx} {o:Oper} {Y:St} {a:Act} {w:World} {E:AV->List Blk->Prop} {ids:List Nat} {bs:List Blk} {dst:Nat}
theorem zi4{P:Program}{F:List Field}{fs:List (Nat×Nat×Bool)}(hF:zc0 P F fs)(a:Act)(sl:List AV):∀(parts:List (Nat×Operand))(z:List AV)(k:List AV->Prop),
 zl3 fs (zq4 (zm sl) parts) z k->∃r,k r/\∀(zs:Array Value)(place:Nat->Option (Nat×Nat)),
  (∀f fd s ag,F[f]? =some fd->fs[f]? =some (fd.offset,s,ag)->place f=some (fd.offset,s))->z.length=zs.size->(∃ρ,Rs ρ sl a.tmps.toList)->
  ∃cs,q2 place zs (parts.map fun x=>(x.1,a.eval x.2))=some cs/\∀ρ,Rs ρ sl a.tmps.toList->Rs ρ z zs.toList->Rs ρ r cs.toList
 | [],z,k,h=>⟨z,by simpa[zq4,zl3]using h,fun zs place _ _ _=>⟨zs,by simp[q2],fun ρ _ h=>h⟩⟩
 |(f,x)::parts,z,k,h=>by
  simp only[zq4,zl3]at h;obtain⟨fd,s,ag,inf,d,hfd,h,hs0,_,_,_,_,_,hfs⟩:=zcq hF h;split at h
  .rename_i hl h1;obtain⟨hle,h⟩:=zcl _ _ _ _ h;obtain⟨r,hk,hrest⟩:=zi4 hF a sl parts _ _ h;refine⟨r,hk,fun zs place hp hz hρ=>?_⟩;obtain⟨ρ0,hρ0⟩:=hρ;have hcs:=(zc hρ0 x).cells h1;have hlen:(a.eval x).cells.size =s:=by
    have:=hcs.length;rw[zd5 _ _ hl]at this;simpa using this.symm
   have hcl:(zm sl x).cs.length =s:=zd5 _ _ hl;have hle':fd.offset+(a.eval x).cells.size <=zs.size:=by rw[hlen,<-hz,<-hcl];exact hle
   have hfold:=zkg (a.eval x) fd.offset zs hle';obtain⟨cs,hfill,hcsr⟩:=hrest ((a.eval x).cells.zipIdx.foldl (fun(cs:Array Value)(x:Value×Nat)=>cs.setIfInBounds (fd.offset+x.2) x.1) zs) place hp
    (by rw[jf _ _ _ hle,hz,<-q0,<-q0,hfold,jf _ _ _ (by simpa using hle')]) ⟨ρ0,hρ0⟩
   refine⟨cs,?_,fun ρ hρ hz'=>hcsr ρ hρ ?_⟩
   .simp only[List.map_cons,q2,hp f fd s ag hfd hfs];rw[Z7 (by simp[hlen];rw[hlen]at hle';omega)];exact hfill
   .rw[hfold];exact hz'.lay ((zc hρ x).cells h1) _
  .exact h.elim
theorem zi5(a:Act)(sl:List AV)(s:Nat):∀(parts:List (Nat×Operand))(z:List AV)(k:List AV->Prop),
 zl5 s (zq4 (zm sl) parts) z k->∃r,k r/\∀(zs:Array Value),z.length=zs.size->(∃ρ,Rs ρ sl a.tmps.toList)->
  ∃cs,q2 (fun i=>some (i*s,s)) zs (parts.map fun x=>(x.1,a.eval x.2))=some cs/\∀ρ,Rs ρ sl a.tmps.toList->Rs ρ z zs.toList->Rs ρ r cs.toList
 | [],z,k,h=>⟨z,by simpa[zq4,zl5]using h,fun zs _ _=>⟨zs,by simp[q2],fun ρ _ h=>h⟩⟩
 |(f,x)::parts,z,k,h=>by
  simp only[zq4,zl5]at h;split at h
  .rename_i hl h1;obtain⟨hle,h⟩:=zcl _ _ _ _ h;obtain⟨r,hk,hrest⟩:=zi5 a sl s parts _ _ h;refine⟨r,hk,fun zs hz hρ=>?_⟩;obtain⟨ρ0,hρ0⟩:=hρ;have hcs:=(zc hρ0 x).cells h1;have hcl:(zm sl x).cs.length =s:=zd5 _ _ hl;have hlen:(a.eval x).cells.size =s:=by
    have:=hcs.length;rw[hcl]at this;simpa using this.symm
   have hle':f*s+(a.eval x).cells.size <=zs.size:=by rw[hlen,<-hz];rw[hcl]at hle;exact hle
   have hfold:=zkg (a.eval x) (f*s) zs hle';obtain⟨cs,hfill,hcsr⟩:=hrest ((a.eval x).cells.zipIdx.foldl (fun(cs:Array Value)(x:Value×Nat)=>cs.setIfInBounds (f*s+x.2) x.1) zs)
    (by rw[jf _ _ _ hle,hz,<-q0,<-q0,hfold,jf _ _ _ (by simpa using hle')]) ⟨ρ0,hρ0⟩
   refine⟨cs,?_,fun ρ hρ hz'=>hcsr ρ hρ ?_⟩
   .simp only[List.map_cons,q2];rw[Z7 (by simp[hlen];rw[hlen]at hle';omega)];exact hfill
   .rw[hfold];exact hz'.lay ((zc hρ x).cells h1) _
  .exact h.elim
theorem zgr{P:Program}{w:World}:∀(F:List Field)(fs:List (Nat×Nat×Bool)),zc0 P F fs->
 (F.mapM fun f=>do pure (f.offset,<-sizeOf f.type):Sem (List (Nat×Nat))).run P w=.ok (fs.map fun x=>(x.1,x.2.1)) w
 | [],[],_=>OC
 | [],_::_,h=>by simp[zc0]at h
 | _::_,[],h=>by simp[zc0]at h
 |f::F,(o,s,ag)::fs,h=>by
  simp only[zc0]at h;obtain⟨⟨h1,_,inf,d,h3,h4,_⟩,h5⟩:=h;rw[List.mapM_cons];simp only[Sem.run_bind,zcu h3,q1,Sem.run_pure,zgr F fs h5,h1,h4,List.map_cons]
theorem zry(hT:TabOK P T)(h:Rel c Y a w){t:TypeId}{parts:Array (Nat×Operand)}(ho:o.op=.build t parts)(he:qo T C (.build t parts) dst (zm Y.sl) ids bs E):Snd P F T c o Y a w E:=by
 have hw:wr o.op=false:=by simp[wr,ho]
 obtain⟨M,pt,ow,S,hg,hs,hr⟩:=h.own;simp only[qo]at he;obtain⟨i,hmem,he⟩:=qu _ _ _ he;have hi:=hT.ti _ _ hmem;obtain⟨inf,zv,hinf,hsz,hby,hzero,hzs,hzr⟩:=hi.inf;have hmap:(parts.map fun(x:Nat×Operand)=>(x.1,a.eval x.2)).toList =parts.toList.map fun x=>(x.1,a.eval x.2):=OC
 split at he
 .rename_i sz fs e esz len k ik z by_ eq;obtain⟨F,hu,hF,_⟩:=hi.struct rfl;obtain⟨r,hE,hfill⟩:=zi4 hF a Y.sl _ _ _ he;have hzl:z.length=zv.cells.size:=by
   have:=(hzr ⟨fun _ _=>False,fun _=>none,fun _=>none⟩).length;simpa using this
  obtain⟨cs,hcs,hcr⟩:=hfill zv.cells (fun j=>((fs.map fun x=>(x.1,x.2.1)).toArray)[j]?)
   (fun f fd s ag _ hfs=>by simp[hfs]) hzl ⟨_,hr⟩
  refine qy h hE hw (.agg cs) ?_ fun M' pt' ow' S' _ hs' pt'' ow'' hag=>?_
  .have hm:(F.mapM fun f=>do pure (f.offset,<-sizeOf f.type):Sem (Array (Nat×Nat))).run P w=.ok (fs.map fun x=>(x.1,x.2.1)).toArray w:=by
    rw[Array.mapM_eq_mapM_toList];simp only[Sem.run_map,zgr F.toList fs hF,q1]
   simp only[execOp,ho,q3,Sem.run_bind,zv8 hinf hzero,q1,zaj hu,hm];rw[hmap,hcs];simp
  .simp only[R];exact⟨cs,rfl,hcr _ (hs' pt'' ow'' hag).1 (hzr _)⟩
 .rename_i sz fs e esz len k ik z by_ eq;obtain⟨hu,inf',hinf',hsz',hpos⟩:=hi.array rfl;obtain⟨r,hE,hfill⟩:=zi5 a Y.sl esz _ _ _ he;have hzl:z.length=zv.cells.size:=by
   have:=(hzr ⟨fun _ _=>False,fun _=>none,fun _=>none⟩).length;simpa using this
  obtain⟨cs,hcs,hcr⟩:=hfill zv.cells hzl ⟨_,hr⟩;refine qy h hE hw (.agg cs) ?_ fun M' pt' ow' S' _ hs' pt'' ow'' hag=>?_
  .simp only[execOp,ho,q3,Sem.run_bind,zv8 hinf hzero,q1,zaj hu,zcu hinf',hsz'];rw[hmap,hcs];simp
  .simp only[R];exact⟨cs,rfl,hcr _ (hs' pt'' ow'' hag).1 (hzr _)⟩
 .exact he.elim
end
