/- Aids for whoever carries out a function: states compared, loops, numbers. -/
import Derived.Test.YtlbmkjbgfkgcmaaGreatDoorTSxX
set_option linter.all false
open Bool renaming and_eq_true->q0
namespace Go.Sx
open Go
theorem brI{b:Bool}{x y:Prop}(h1:b=true->x)(h2:b=false->y): @Bool.rec (fun _=>Prop) y x b:=by cases b;exact h2 rfl;exact h1 rfl
theorem ln0{h h':Hp}:leL h h' [] []:=trivial
theorem lc{h h':Hp}{a b:AV}{l m:List AV}(h1:leA h h' a b)(h2:leL h h' l m):leL h h' (a::l) (b::m):=⟨h1,h2⟩
theorem la0{h h':Hp}{a:AV}:leA h h' a .any :=by cases a<;>trivial
def okR(h h':Hp):AV->Bool
 |.own i=>(hget h i).isBuf &&(hget h' i).isBuf
 |.opt _ _ _ _=>false
 |.ow i _ _ _=>(hget h i).isBuf &&(hget h' i).isBuf
 |.ub _ _=>false
 |.agg l=>okRL h h' l
 |.tup l=>okRL h h' l
 |.fn _ l=>okRL h h' l
 | _=>true
where okRL (h h':Hp):List AV->Bool
 | []=>true
 |a::l=>okR h h' a&&okRL h h' l
mutual
theorem lr{h h':Hp}:∀ {a:AV},okR h h' a=true->leA h h' a a
 |.any,_=>trivial
 |.bool _,_=>rfl
 |.int k _,_=>by cases k<;>rfl
 |.str _,_=>rfl
 |.nilp,_=>trivial
 |.ptr i o,_=>by simp[leA]
 |.rp _ _ _,_=>rfl
 |.opt _ _ _ _,e=>by simp[okR]at e
 |.ow i _ _ _,e=>by
   simp only[okR,q0]at e;simp only[leA];rw[(zd i i).2 rfl]
   revert e
   cases hget h i<;>simp[Blk.isBuf]
 |.nilsl,_=>trivial
 |.sl _ _,_=>rfl
 |.own i,e=>by
   simp only[okR,q0]at e;simp only[leA];rw[(zd i i).2 rfl]
   revert e
   cases hget h i<;>simp[Blk.isBuf]
 |.agg l,e=>by simp only[leA];exact zd6 (by simpa[okR]using e)
 |.tup l,e=>by simp only[leA];exact zd6 (by simpa[okR]using e)
 |.fn f l,e=>by simp only[leA];rw[(zd f f).2 rfl];exact zd6 (by simpa[okR]using e)
 |.nilf,_=>trivial
 |.mp i,_=>by simp only[leA];rw[(zd i i).2 rfl];trivial
 |.nilm,_=>trivial
 |.cb _,_=>rfl
 |.val _,_=>rfl
 |.ub _ _,e=>by simp[okR]at e
theorem zd6{h h':Hp}:∀ {l:List AV},okR.okRL h h' l=true->leL h h' l l
 | [],_=>trivial
 |a::l,e=>by
  simp only[okR.okRL,q0]at e;exact⟨lr e.1,zd6 e.2⟩
end
theorem ai0{h h':Hp}{k:IntKind}{a b:Int}(e:a=b):leA h h' (.int k a) (.int k b):=by subst e;exact lr rfl
theorem ab0{h h':Hp}{a b:Bool}(e:a=b):leA h h' (.bool a) (.bool b):=e
theorem vp{h h':Hp}{k:Elt}{a b:List k.T}(e:a=b):leA h h' (.sl k a) (.sl k b):=by subst e;rfl
theorem lg0{h h':Hp}{a b:List AV}(e:leL h h' a b):leA h h' (.agg a) (.agg b):=e
theorem lt0{h h':Hp}{a b:List AV}(e:leL h h' a b):leA h h' (.tup a) (.tup b):=e
theorem li0{h h':Hp}{k:Elt}{b:List k.T}(e:b= []):leA h h' .nilsl (.sl k b):=by subst e;rfl
theorem lh0{h h':Hp}:leH h h' [] []:=trivial
theorem lh1{h h':Hp}{i:Nat}{a b:Blk}{l m:Hp}(h1:leB h h' i a b)(h2:leH h h' l m):leH h h' ((i,a)::l) ((i,b)::m):=by
 unfold leH;rw[(zd i i).2 rfl];exact⟨h1,h2⟩
theorem bf0{h h':Hp}{i:Nat}{a:Blk}:leB h h' i a .free :=by cases a<;>trivial
theorem bd0{h h':Hp}{i:Nat}{a:Blk}:leB h h' i a .dead :=by cases a<;>trivial
theorem bc0{h h':Hp}{i:Nat}{a b:List AV}(e:leL h h' a b):leB h h' i (.cells a) (.cells b):=e
theorem bb0{h h':Hp}{i:Nat}{t:TypeId}{k:Elt}{a b:List k.T}(e:a=b):leB h h' i (.buf t k a) (.buf t k b):=by
 subst e;show(match Nat.beq t t with|true=>AV.sl k a=AV.sl k a|false=>False);rw[(zd t t).2 rfl]
theorem bm0{h h':Hp}{i:Nat}{kk vk:Elt}{a b:List (kk.T×vk.T)}(e:a=b):leB h h' i (.map kk vk a) (.map kk vk b):=by subst e;rfl
theorem bg0{h h':Hp}{i:Nat}{J J':GJ}(e:J=J'):leB h h' i (.gst J) (.gst J'):=e
theorem wI{x:Int}(h: -9223372036854775808<=x/\x<=9223372036854775807):IntKind.i64.wrap x=x:=by
 show(if(true&&decide (x % 18446744073709551616≥9223372036854775808))=true then x % 18446744073709551616-18446744073709551616 else x % 18446744073709551616)=x;simp only[Bool.true_and,Z4];split<;>omega
theorem wU{x:Int}(h:0<=x/\x<=18446744073709551615):IntKind.u64.wrap x=x:=by
 show(if(false&&decide (x % 18446744073709551616≥9223372036854775808))=true then x % 18446744073709551616-18446744073709551616 else x % 18446744073709551616)=x;simp only[Bool.false_and,Bool.false_eq_true,if_false];omega
