/-
  Intervals of small numbers: interval.Valid, known, Neg, Add, Sub, Mul.
-/
import Derived.Test.YtnijmbnkcmhfpaaGreatDoorQYb
import Derived.Test.YtnijmbnkcmhfpaaGreatDoorQCk
import Derived.Test.YtnijmbnkcmhfpaaGreatDoorQVa
set_option linter.unusedVariables false
set_option linter.unusedSimpArgs false
namespace Go.Proofs.YtnijmbnkcmhfpaaGreatDoor
open Go Go.Sx
set_option maxRecDepth 100000
set_option maxHeartbeats 8000000
theorem ixh0 {α : Type} {P : α → Prop} {a : α} {l : List α} (h : P a) : ((0 : Int) ≤ 0 ∧ (0 : Int) < ((a :: l).length : Int)) ∧ ∀ x, (a :: l)[(0 : Int).toNat]? = some x → P x :=
  ⟨⟨Int.le_refl _, by simp only [List.length_cons]; omega⟩, fun x hx => by simp at hx; subst hx; exact h⟩
/-- Intervals that are good. -/
def GI (x : Iv) : Prop := x.all = false ∧ LB x.lo.m ∧ LB x.hi.m ∧ x.lo.m.length ≤ 1000000 ∧ x.hi.m.length ≤ 1000000 ∧ (sgD x.lo = sgD x.hi → sgD x.lo = 0) ∧ vB x.lo = true ∧ vB x.hi = true ∧ cmS x.lo x.hi ≤ 0
def i01 : Iv := ⟨d0, d1, false⟩
def im0 : Iv := ⟨dm, d0, false⟩
def im1 : Iv := ⟨dm, d1, false⟩
theorem LBm : LB dm.m := LB1
theorem g01 : GI i01 := ⟨rfl, LB0, LB1, by decide, by decide, by decide +kernel, by decide +kernel, by decide +kernel, by decide +kernel⟩
theorem gm0 : GI im0 := ⟨rfl, LB1, LB0, by decide, by decide, by decide +kernel, by decide +kernel, by decide +kernel, by decide +kernel⟩
theorem gm1 : GI im1 := ⟨rfl, LB1, LB1, by decide, by decide, by decide +kernel, by decide +kernel, by decide +kernel, by decide +kernel⟩
theorem y51 (x : Iv) (h : GI x) : Fn 51 [] [.agg (ivC x)] (.bool true) [] := by
  obtain ⟨ha, h1, h2, h3, h4, h5, h6, h7, h8⟩ := h
  have a80 := y80 x.lo h1 h3
  have b80 := y80 x.hi h2 h4
  have h81 := y81 x.lo x.hi h1 h2 h3 h4 h5
  rw [h6] at a80; rw [h7] at b80
  generalize cmS x.lo x.hi = c at h81 h8
  obtain ⟨⟨a1, a2, a3⟩, ⟨b1, b2, b3⟩, al⟩ := x
  obtain rfl : al = false := ha
  refine fnT hT4 hmx Tryz.func51 rfl rfl (ex := []) ?_
  conv => whnf
  refine ⟨[], _, a80, ?_⟩
  conv => whnf
  refine ⟨[], _, b80, ?_⟩
  conv => whnf
  refine ⟨[], _, h81, ?_⟩
  conv => whnf
  exact ⟨leA_bool (by simp [h8]), leH_nil⟩
theorem y126 (l : List Iv) (hl : l.length ≤ 1000000) (h : ∀ x ∈ l, GI x) : Fn 126 [] [.sl .iv l] (.bool true) [] := by
  refine fnT hT4 hmx Tryz.func126 rfl rfl (ex := []) ?_
  conv => whnf
  refine ⟨Nat, fun i => i ≤ l.length, fun i => [(7, .int .i64 i)], fun _ => [], fun i => l.length - i, 0, by simp, ?_, fun i hi => ?_⟩
  · ((conv => whnf); refine And.intro ?_ ?_; repeat' first | refine leL_cons ?_ ?_ | exact leA_any | exact leA_refl rfl | exact leL_nil | refine leH_cons ?_ ?_ | exact leH_nil | exact leB_free | exact leB_dead | refine leB_cells ?_ | exact leB_map rfl | exact leB_gst rfl | exact leA_nil rfl | refine leA_agg ?_ | refine leA_tup ?_ | fail)
  (refine ⟨by kernel_rfl, ?_⟩; (conv => whnf))
  refine brI (fun h1 => ?_) (fun h1 => ?_)
  · conv => whnf
    have hi : i < l.length := by simp only [decide_eq_true_eq] at h1; omega
    refine ⟨⟨by omega, by omega⟩, fun (x : Iv) hx => ?_⟩
    have hx : l[i]? = some x := by simpa using hx
    have hg := h x (List.mem_of_getElem? hx)
    have h51 := y51 x hg
    obtain ⟨ha, _⟩ := hg
    obtain ⟨lo, hi', al⟩ := x
    obtain rfl : al = false := ha
    conv => whnf
    refine ⟨[], _, h51, ?_⟩
    conv => whnf
    refine ⟨i + 1, by show i + 1 ≤ l.length; omega, by show l.length - (i + 1) < l.length - i; omega, ?_⟩
    ((conv => whnf); refine And.intro ?_ ?_; repeat' first | refine leL_cons ?_ ?_ | exact leA_any | exact leA_refl rfl | exact leL_nil | refine leH_cons ?_ ?_ | exact leH_nil | exact leB_free | exact leB_dead | refine leB_cells ?_ | exact leB_map rfl | exact leB_gst rfl | exact leA_nil rfl | refine leA_agg ?_ | refine leA_tup ?_ | fail)
    exact leA_int (by rw [wI (by omega)]; omega)
  · conv => whnf
    exact ⟨leA_refl rfl, leH_nil⟩
theorem y127 : Fn 127 [] [.int .i64 24] (.bool true) [] := by
  refine fnT hT4 hmx Tryz.func127 rfl rfl (ex := []) ?_
  conv => whnf
  exact ⟨leA_refl rfl, leH_nil⟩
theorem y86 (x : Iv) (h : GI x) : Fn 86 [] [.agg (ivC x)] (.agg (ivC ⟨ngD x.hi, ngD x.lo, false⟩)) [] := by
  have h126 := y126 [x] (by simp) (by simpa using h)
  obtain ⟨ha, h1, h2, h3, h4, _⟩ := h
  have a135 := y135 x.hi h2 h4
  have b135 := y135 x.lo h1 h3
  generalize ngD x.hi = A at a135
  generalize ngD x.lo = B at b135
  obtain ⟨A1, A2, A3⟩ := A
  obtain ⟨B1, B2, B3⟩ := B
  obtain ⟨⟨a1, a2, a3⟩, ⟨b1, b2, b3⟩, al⟩ := x
  refine fnT hT4 hmx Tryz.func86 rfl rfl (ex := []) ?_
  conv => whnf
  refine ⟨[], _, h126, ?_⟩
  conv => whnf
  refine ⟨[], _, a135, ?_⟩
  conv => whnf
  refine ⟨[], _, b135, ?_⟩
  conv => whnf
  (refine ⟨by kernel_rfl, by kernel_rfl, ?_⟩; (conv => whnf))
  exact ⟨leA_refl rfl, leH_nil⟩
theorem y130 (a b : Dy) : Fn 130 [] [.agg (dyC a), .int .i64 0, .agg (dyC b), .int .i64 0] (.agg (ivC ⟨a, b, false⟩)) [] := by
  obtain ⟨a1, a2, a3⟩ := a
  obtain ⟨b1, b2, b3⟩ := b
  refine fnT hT4 hmx Tryz.func130 rfl rfl (ex := []) ?_
  conv => whnf
  exact ⟨leA_refl rfl, leH_nil⟩
theorem y82 : Fn 82 G0 [.agg (ivC i01), .agg (ivC im0), .int .i64 24] (.agg (ivC im1)) G0 := by
  have h126 := y126 [i01, im0] (by simp) (by simpa using ⟨g01, gm0⟩)
  have h128 := y128 d0 dm dm (y179a true false)
  have h129 := y129 d1 d0 d1 (y179b false true)
  have h130 := y130 dm d1
  refine fnT hT4 hmx Tryz.func82 rfl rfl (ex := []) ?_
  conv => whnf
  refine ⟨[], _, h126, ?_⟩
  conv => whnf
  refine ⟨[], _, y127, ?_⟩
  conv => whnf
  refine ⟨[.gst JT], _, h128, ?_⟩
  conv => whnf
  refine ⟨[.gst JT], _, h129, ?_⟩
  conv => whnf
  refine ⟨[], _, h130, ?_⟩
  conv => whnf
  exact ⟨leA_refl rfl, leG⟩
theorem ng0 : ngD d0 = d0 := by decide +kernel
theorem y83 : Fn 83 G0 [.agg (ivC i01), .agg (ivC i01), .int .i64 24] (.agg (ivC im1)) G0 := by
  have h86 := y86 i01 g01
  rw [show (⟨ngD i01.hi, ngD i01.lo, false⟩ : Iv) = im0 by simp only [i01, ng1, ng0]; rfl] at h86
  refine fnT hT4 hmx Tryz.func83 rfl rfl (ex := []) ?_
  conv => whnf
  refine ⟨[], _, h86, ?_⟩
  conv => whnf
  refine ⟨[.gst JT], _, y82, ?_⟩
  conv => whnf
  (refine ⟨by kernel_rfl, by kernel_rfl, ?_⟩; (conv => whnf))
  exact ⟨leA_refl rfl, leG⟩
/-- The products of ends. -/
def pq (i : Nat) : Dy := if i = 3 then d1 else d0
def pa (i : Nat) : Dy := if i < 2 then d0 else d1
def pb (i : Nat) : Dy := if i = 1 ∨ i = 3 then d1 else d0
theorem y132p (i : Nat) (hi : i < 4) : Fn 132 G0 [.agg (dyC (pa i)), .agg (dyC (pb i)), .int .i64 24] (dyV (pq i, 0)) G0 := by
  have hp : LB d1.m ∧ d1.m.length ≤ 1000000 := pm_lb false
  obtain rfl | rfl | rfl | rfl : i = 0 ∨ i = 1 ∨ i = 2 ∨ i = 3 := by omega
  · exact y132 d0 d0 d0 (y180z d0 d0 false LBd0 LBd0 (by decide +kernel) (.inl rfl))
  · exact y132 d0 d1 d0 (y180z d0 d1 false LBd0 hp (by decide +kernel) (.inl rfl))
  · exact y132 d1 d0 d0 (y180z d1 d0 false hp LBd0 (by decide +kernel) (.inr rfl))
  · exact y132 d1 d1 d1 (y180 false)
theorem y133p (i : Nat) (hi : i < 4) : Fn 133 G0 [.agg (dyC (pa i)), .agg (dyC (pb i)), .int .i64 24] (dyV (pq i, 0)) G0 := by
  have hp : LB d1.m ∧ d1.m.length ≤ 1000000 := pm_lb false
  obtain rfl | rfl | rfl | rfl : i = 0 ∨ i = 1 ∨ i = 2 ∨ i = 3 := by omega
  · exact y133 d0 d0 d0 (y180z d0 d0 true LBd0 LBd0 (by decide +kernel) (.inl rfl))
  · exact y133 d0 d1 d0 (y180z d0 d1 true LBd0 hp (by decide +kernel) (.inl rfl))
  · exact y133 d1 d0 d0 (y180z d1 d0 true hp LBd0 (by decide +kernel) (.inr rfl))
  · exact y133 d1 d1 d1 (y180 true)
/-- The interval so far. -/
def oI (i : Nat) : Iv := ⟨d0, if i = 4 then d1 else d0, false⟩
theorem y131 : Fn 131 G0 [.agg (ivC i01), .agg (ivC i01), .int .i64 24, .fn 132 [], .fn 133 []] (.agg (ivC i01)) G0 := by
  have h00 := y81 d0 d0 LB0 LB0 (by decide) (by decide) (by decide +kernel)
  rw [show cmS d0 d0 = 0 by decide +kernel] at h00
  have h10 := y81 d1 d0 LB1 LB0 (by decide) (by decide) (by decide +kernel)
  rw [show cmS d1 d0 = 1 by decide +kernel] at h10
  refine fnT hT4 hmx Tryz.func131 rfl rfl (ex := []) ?_
  conv => whnf
  refine ⟨Nat, fun i => i ≤ 4, fun i => [(41, .int .i64 i)], fun i => [(12, .cells (ivC (oI i)))], fun i => 4 - i, 0, by simp, ?_, fun i hi => ?_⟩
  · ((conv => whnf); refine And.intro ?_ ?_; repeat' first | refine leL_cons ?_ ?_ | exact leA_any | exact leA_refl rfl | exact leL_nil | refine leH_cons ?_ ?_ | exact leH_nil | exact leB_free | exact leB_dead | refine leB_cells ?_ | exact leB_map rfl | exact leB_gst rfl | exact leA_nil rfl | refine leA_agg ?_ | refine leA_tup ?_ | fail)
  have hd := y132p i
  have hu := y133p i
  obtain rfl | rfl | rfl | rfl | rfl : i = 0 ∨ i = 1 ∨ i = 2 ∨ i = 3 ∨ i = 4 := by omega
  · (refine ⟨by kernel_rfl, ?_⟩; (conv => whnf))
    refine ⟨⟨by decide, by decide⟩, ?_⟩
    conv => whnf
    refine ⟨⟨by decide, by decide⟩, ?_⟩
    conv => whnf
    refine ⟨⟨by decide, by decide⟩, ?_⟩
    conv => whnf
    refine ⟨[.gst JT], _, hd (by decide), ?_⟩
    conv => whnf
    refine ⟨⟨by decide, by decide⟩, ?_⟩
    conv => whnf
    refine ⟨⟨by decide, by decide⟩, ?_⟩
    conv => whnf
    refine ⟨[.gst JT], _, hu (by decide), ?_⟩
    conv => whnf
    refine ⟨1, by decide, by decide, ?_⟩
    ((conv => whnf); refine And.intro ?_ ?_; repeat' first | refine leL_cons ?_ ?_ | exact leA_any | exact leA_refl rfl | exact leL_nil | refine leH_cons ?_ ?_ | exact leH_nil | exact leB_free | exact leB_dead | refine leB_cells ?_ | exact leB_map rfl | exact leB_gst rfl | exact leA_nil rfl | refine leA_agg ?_ | refine leA_tup ?_ | fail)
  · (refine ⟨by kernel_rfl, ?_⟩; (conv => whnf))
    refine ⟨⟨by decide, by decide⟩, ?_⟩
    conv => whnf
    refine ⟨⟨by decide, by decide⟩, ?_⟩
    conv => whnf
    refine ⟨⟨by decide, by decide⟩, ?_⟩
    conv => whnf
    refine ⟨[.gst JT], _, hd (by decide), ?_⟩
    conv => whnf
    refine ⟨⟨by decide, by decide⟩, ?_⟩
    conv => whnf
    refine ⟨⟨by decide, by decide⟩, ?_⟩
    conv => whnf
    refine ⟨[.gst JT], _, hu (by decide), ?_⟩
    conv => whnf
    refine ⟨[], _, h00, ?_⟩
    conv => whnf
    refine ⟨[], _, h00, ?_⟩
    conv => whnf
    refine ⟨2, by decide, by decide, ?_⟩
    ((conv => whnf); refine And.intro ?_ ?_; repeat' first | refine leL_cons ?_ ?_ | exact leA_any | exact leA_refl rfl | exact leL_nil | refine leH_cons ?_ ?_ | exact leH_nil | exact leB_free | exact leB_dead | refine leB_cells ?_ | exact leB_map rfl | exact leB_gst rfl | exact leA_nil rfl | refine leA_agg ?_ | refine leA_tup ?_ | fail)
  · (refine ⟨by kernel_rfl, ?_⟩; (conv => whnf))
    refine ⟨⟨by decide, by decide⟩, ?_⟩
    conv => whnf
    refine ⟨⟨by decide, by decide⟩, ?_⟩
    conv => whnf
    refine ⟨⟨by decide, by decide⟩, ?_⟩
    conv => whnf
    refine ⟨[.gst JT], _, hd (by decide), ?_⟩
    conv => whnf
    refine ⟨⟨by decide, by decide⟩, ?_⟩
    conv => whnf
    refine ⟨⟨by decide, by decide⟩, ?_⟩
    conv => whnf
    refine ⟨[.gst JT], _, hu (by decide), ?_⟩
    conv => whnf
    refine ⟨[], _, h00, ?_⟩
    conv => whnf
    refine ⟨[], _, h00, ?_⟩
    conv => whnf
    refine ⟨3, by decide, by decide, ?_⟩
    ((conv => whnf); refine And.intro ?_ ?_; repeat' first | refine leL_cons ?_ ?_ | exact leA_any | exact leA_refl rfl | exact leL_nil | refine leH_cons ?_ ?_ | exact leH_nil | exact leB_free | exact leB_dead | refine leB_cells ?_ | exact leB_map rfl | exact leB_gst rfl | exact leA_nil rfl | refine leA_agg ?_ | refine leA_tup ?_ | fail)
  · (refine ⟨by kernel_rfl, ?_⟩; (conv => whnf))
    refine ⟨⟨by decide, by decide⟩, ?_⟩
    conv => whnf
    refine ⟨⟨by decide, by decide⟩, ?_⟩
    conv => whnf
    refine ⟨⟨by decide, by decide⟩, ?_⟩
    conv => whnf
    refine ⟨[.gst JT], _, hd (by decide), ?_⟩
    conv => whnf
    refine ⟨⟨by decide, by decide⟩, ?_⟩
    conv => whnf
    refine ⟨⟨by decide, by decide⟩, ?_⟩
    conv => whnf
    refine ⟨[.gst JT], _, hu (by decide), ?_⟩
    conv => whnf
    refine ⟨[], _, h10, ?_⟩
    conv => whnf
    refine ⟨[], _, h10, ?_⟩
    conv => whnf
    refine ⟨4, by decide, by decide, ?_⟩
    ((conv => whnf); refine And.intro ?_ ?_; repeat' first | refine leL_cons ?_ ?_ | exact leA_any | exact leA_refl rfl | exact leL_nil | refine leH_cons ?_ ?_ | exact leH_nil | exact leB_free | exact leB_dead | refine leB_cells ?_ | exact leB_map rfl | exact leB_gst rfl | exact leA_nil rfl | refine leA_agg ?_ | refine leA_tup ?_ | fail)
  · (refine ⟨by kernel_rfl, ?_⟩; (conv => whnf))
    exact ⟨leA_refl rfl, leG⟩
theorem y84 : Fn 84 G0 [.agg (ivC i01), .agg (ivC i01), .int .i64 24] (.agg (ivC i01)) G0 := by
  have h126 := y126 [i01, i01] (by simp) (by simpa using g01)
  refine fnT hT4 hmx Tryz.func84 rfl rfl (ex := []) ?_
  conv => whnf
  refine ⟨[], _, h126, ?_⟩
  conv => whnf
  refine ⟨[], _, y127, ?_⟩
  conv => whnf
  refine ⟨[.gst JT], _, y131, ?_⟩
  conv => whnf
  exact ⟨leA_refl rfl, leG⟩
theorem y52m : Fn 52 G0 [.int .i64 5, .int .i64 0, .agg (ivC i01), .agg (ivC i01), .int .i64 24] (.agg (ivC i01)) G0 := by
  refine fnT hT4 hmx Tryz.func52 rfl rfl (ex := []) ?_
  conv => whnf
  refine ⟨[.gst JT], _, y84, ?_⟩
  conv => whnf
  exact ⟨leA_refl rfl, leG⟩
theorem y52s : Fn 52 G0 [.int .i64 4, .int .i64 0, .agg (ivC i01), .agg (ivC i01), .int .i64 24] (.agg (ivC im1)) G0 := by
  refine fnT hT4 hmx Tryz.func52 rfl rfl (ex := []) ?_
  conv => whnf
  refine ⟨[.gst JT], _, y83, ?_⟩
  conv => whnf
  exact ⟨leA_refl rfl, leG⟩
end Go.Proofs.YtnijmbnkcmhfpaaGreatDoor

/-
  evaluate.Value of x * x - x over [0, 1].
-/
namespace Go.Proofs.YtnijmbnkcmhfpaaGreatDoor
open Go Go.Sx
set_option maxRecDepth 100000
set_option maxHeartbeats 8000000
abbrev esI : List (Bytes × Iv) := [([120], i01)]
theorem y23 : Fn 23 [] [.sl .str [[120]], .sl .iv [i01]] (.tup [.mp 2000000, .bool true]) [(2000000, .map .str .iv esI)] := by
  refine fnT hT4 hmx Tryz.func23 rfl rfl (ex := [21]) ?_
  conv => whnf
  refine ⟨Nat, fun i => i ≤ 1, fun i => [(24, .int .i64 i)], fun i => [(21, .map .str .iv (if i = 0 then [] else esI))], fun i => 1 - i, 0, by simp, ?_, fun i hi => ?_⟩
  · ((conv => whnf); refine And.intro ?_ ?_; repeat' first | refine leL_cons ?_ ?_ | exact leA_any | exact leA_refl rfl | exact leL_nil | refine leH_cons ?_ ?_ | exact leH_nil | exact leB_free | exact leB_dead | refine leB_cells ?_ | exact leB_map rfl | exact leB_gst rfl | exact leA_nil rfl | refine leA_agg ?_ | refine leA_tup ?_ | fail)
  obtain rfl | rfl : i = 0 ∨ i = 1 := by omega
  · (refine ⟨by kernel_rfl, ?_⟩; (conv => whnf))
    refine ixh0 ?_
    conv => whnf
    refine ixh0 ?_
    conv => whnf
    refine ⟨1, by decide, by decide, ?_⟩
    ((conv => whnf); refine And.intro ?_ ?_; repeat' first | refine leL_cons ?_ ?_ | exact leA_any | exact leA_refl rfl | exact leL_nil | refine leH_cons ?_ ?_ | exact leH_nil | exact leB_free | exact leB_dead | refine leB_cells ?_ | exact leB_map rfl | exact leB_gst rfl | exact leA_nil rfl | refine leA_agg ?_ | refine leA_tup ?_ | fail)
  · (refine ⟨by kernel_rfl, ?_⟩; (conv => whnf))
    exact ⟨leA_refl rfl, leH_cons (leB_map rfl) leH_nil⟩
abbrev Hv : Hp := [(CBID, .gst JT), (1000001, .map .str .iv esI)]
theorem leHv {h h' : Hp} : leH h h' Hv Hv := leH_cons (leB_gst rfl) (leH_cons (leB_map rfl) leH_nil)
def xE : Ex := varE [120]
theorem y26v : Fn 26 Hv [.agg (exC xE), .mp 1000001, .int .i64 24] (.tup [.agg (ivC i01), .bool true]) Hv := by
  have h51 := y51 i01 g01
  refine fnT hT4 hmx Tryz.func26 rfl rfl (ex := []) ?_
  conv => whnf
  refine ⟨[], _, h51, ?_⟩
  conv => whnf
  exact ⟨leA_refl rfl, leHv⟩
theorem y26b (k : Int) (hk : k = 4 ∨ k = 5) (a b : Ex) (A B C : Iv) (ha : Fn 26 Hv [.agg (exC a), .mp 1000001, .int .i64 24] (.tup [.agg (ivC A), .bool true]) Hv)
    (hb : Fn 26 Hv [.agg (exC b), .mp 1000001, .int .i64 24] (.tup [.agg (ivC B), .bool true]) Hv) (hc : Fn 52 G0 [.int .i64 k, .int .i64 0, .agg (ivC A), .agg (ivC B), .int .i64 24] (.agg (ivC C)) G0) :
    Fn 26 Hv [.agg (exC (opE k 0 [a, b])), .mp 1000001, .int .i64 24] (.tup [.agg (ivC C), .bool true]) Hv := by
  obtain ⟨⟨A1, A2, A3⟩, ⟨A4, A5, A6⟩, A7⟩ := A
  obtain ⟨⟨B1, B2, B3⟩, ⟨B4, B5, B6⟩, B7⟩ := B
  obtain ⟨⟨C1, C2, C3⟩, ⟨C4, C5, C6⟩, C7⟩ := C
  obtain rfl | rfl := hk
  all_goals
    refine fnT hT4 hmx Tryz.func26 rfl rfl (ex := []) ?_
    conv => whnf
    refine ⟨Nat, fun i => i ≤ 2, fun i => [(41, .int .i64 i)], fun i => [(10, .cells (match i with
      | 0 => [.bool false, .nilsl, .int .i64 0, .bool false, .nilsl, .int .i64 0, .bool false, .bool false, .nilsl, .int .i64 0, .bool false, .nilsl, .int .i64 0, .bool false]
      | 1 => [.bool A1, .sl .u32 A2, .int .i64 A3, .bool A4, .sl .u32 A5, .int .i64 A6, .bool A7, .bool false, .nilsl, .int .i64 0, .bool false, .nilsl, .int .i64 0, .bool false]
      | _ => [.bool A1, .sl .u32 A2, .int .i64 A3, .bool A4, .sl .u32 A5, .int .i64 A6, .bool A7, .bool B1, .sl .u32 B2, .int .i64 B3, .bool B4, .sl .u32 B5, .int .i64 B6, .bool B7]))], fun i => 2 - i, 0, by simp, ?_, fun i hi => ?_⟩
    · ((conv => whnf); refine And.intro ?_ ?_; repeat' first | refine leL_cons ?_ ?_ | exact leA_any | exact leA_refl rfl | exact leL_nil | refine leH_cons ?_ ?_ | exact leH_nil | exact leB_free | exact leB_dead | refine leB_cells ?_ | exact leB_map rfl | exact leB_gst rfl | exact leA_nil rfl | refine leA_agg ?_ | refine leA_tup ?_ | fail)
    obtain rfl | rfl | rfl : i = 0 ∨ i = 1 ∨ i = 2 := by omega
    · (refine ⟨by kernel_rfl, ?_⟩; (conv => whnf))
      refine ix0 ?_
      conv => whnf
      refine ⟨[.gst JT, .map .str .iv esI], _, ha, ?_⟩
      conv => whnf
      refine ⟨⟨by omega, by omega⟩, ?_⟩
      conv => whnf
      refine ⟨1, by decide, by decide, ?_⟩
      ((conv => whnf); refine And.intro ?_ ?_; repeat' first | refine leL_cons ?_ ?_ | exact leA_any | exact leA_refl rfl | exact leL_nil | refine leH_cons ?_ ?_ | exact leH_nil | exact leB_free | exact leB_dead | refine leB_cells ?_ | exact leB_map rfl | exact leB_gst rfl | exact leA_nil rfl | refine leA_agg ?_ | refine leA_tup ?_ | fail)
    · (refine ⟨by kernel_rfl, ?_⟩; (conv => whnf))
      refine ix1 ?_
      conv => whnf
      refine ⟨[.gst JT, .map .str .iv esI], _, hb, ?_⟩
      conv => whnf
      refine ⟨⟨by omega, by omega⟩, ?_⟩
      conv => whnf
      refine ⟨2, by decide, by decide, ?_⟩
      ((conv => whnf); refine And.intro ?_ ?_; repeat' first | refine leL_cons ?_ ?_ | exact leA_any | exact leA_refl rfl | exact leL_nil | refine leH_cons ?_ ?_ | exact leH_nil | exact leB_free | exact leB_dead | refine leB_cells ?_ | exact leB_map rfl | exact leB_gst rfl | exact leA_nil rfl | refine leA_agg ?_ | refine leA_tup ?_ | fail)
    · (refine ⟨by kernel_rfl, ?_⟩; (conv => whnf))
      refine ⟨⟨by omega, by omega⟩, ?_⟩
      conv => whnf
      refine ⟨⟨by omega, by omega⟩, ?_⟩
      conv => whnf
      refine ⟨[.gst JT], _, hc, ?_⟩
      conv => whnf
      exact ⟨leA_refl rfl, leHv⟩
/-- The example of the chapter. -/
def eA : Ex := opE 4 0 [opE 5 0 [xE, xE], xE]
theorem y26 : Fn 26 Hv [.agg (exC eA), .mp 1000001, .int .i64 24] (.tup [.agg (ivC im1), .bool true]) Hv :=
  y26b 4 (.inl rfl) (opE 5 0 [xE, xE]) xE i01 i01 im1 (y26b 5 (.inr rfl) xE xE i01 i01 i01 y26v y26v y52m) y26v y52s
theorem okA : okT eA = true := by decide +kernel
theorem y8 : Fn 8 G0 [.agg (exC eA), .sl .str [[120]], .sl .iv [i01], .int .i64 24] (.agg (ivC im1)) G0 := by
  have h24 := f17 eA (by simp [eA, xE, opE, varE, Sm, SmL])
  rw [okA] at h24
  refine fnT hT4 hmx Tryz.func8 rfl rfl (ex := []) ?_
  conv => whnf
  refine ⟨[], [.map .str .iv esI], _, y23, ?_⟩
  conv => whnf
  refine ⟨[], _, h24, ?_⟩
  conv => whnf
  refine ⟨[.gst JT, .map .str .iv esI], _, y26.sw [(15, 1000001)] rfl, ?_⟩
  conv => whnf
  exact ⟨leA_refl rfl, leG⟩
end Go.Proofs.YtnijmbnkcmhfpaaGreatDoor
