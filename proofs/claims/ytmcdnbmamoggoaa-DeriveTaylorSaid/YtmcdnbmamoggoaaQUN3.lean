/-
  Degrees: derive.degree of operations with two operands.
-/
import Derived.Test.YtmcdnbmamoggoaaQUM
set_option linter.unusedVariables false
set_option linter.unusedSimpArgs false
namespace Go.Proofs.Ytmcdnbmamoggoaa
open Go Go.Sx
set_option maxRecDepth 100000
set_option maxHeartbeats 8000000
theorem f68_two3 (nm : Bytes) (k : Int) (a b : Ex) (hk : K2 k) (i j : Nat) (hi : i ≤ 1000) (hj : j ≤ 1000) (ih : Fn 68 [] [.agg (exC a), .str nm] (dgV (some i)) []) (ih2 : Fn 68 [] [.agg (exC b), .str nm] (dgV (some j)) []) : Fn 68 [] [.agg (exC (opE k 0 [a, b])), .str nm] (dgV (degO k 0 [(some i), (some j)])) [] := by
  obtain ⟨D, hD⟩ : ∃ D : Nat, D = deg2 k i j := ⟨_, rfl⟩
  have e : degO k 0 [(some i), (some j)] = cap D := by rw [hD]; rfl
  rw [e]
  rcases hk with rfl | rfl | rfl | rfl <;>
  (refine fnT hT hmx Try.func68 rfl rfl (ex := []) ?_
   (conv => whnf)
   refine ⟨Nat, fun x => x ≤ 2, fun x => [(23, .int .i64 x), (6, .int .i64 (if x = 0 then 0 else if x = 1 then (i : Int) else (D : Int)))], fun _ => [], fun x => 2 - x, 0, by omega, ?_, fun x hx => ?_⟩
   · ((conv => whnf); refine And.intro ?_ ?_; repeat' first | refine leL_cons ?_ ?_ | exact leA_any | exact leA_refl rfl | exact leL_nil | refine leH_cons ?_ ?_ | exact leH_nil | exact leB_free | exact leB_dead | refine leB_cells ?_ | exact leB_map rfl | exact leB_gst rfl | exact leA_nil rfl | refine leA_agg ?_ | refine leA_tup ?_ | fail)
   · rcases (show x = 0 ∨ x = 1 ∨ x = 2 by omega) with rfl | rfl | rfl
     · (refine ⟨by kernel_rfl, ?_⟩; (conv => whnf))
       refine ix0 ?_
       (conv => whnf)
       refine ⟨[], _, ih, ?_⟩
       (conv => whnf)
       refine ⟨1, by omega, by decide, ?_⟩
       ((conv => whnf); refine And.intro ?_ ?_; repeat' first | refine leL_cons ?_ ?_ | exact leA_any | exact leA_refl rfl | exact leL_nil | refine leH_cons ?_ ?_ | exact leH_nil | exact leB_free | exact leB_dead | refine leB_cells ?_ | exact leB_map rfl | exact leB_gst rfl | exact leA_nil rfl | refine leA_agg ?_ | refine leA_tup ?_ | fail)
       first
         | exact leA_int (by show IntKind.i64.wrap ((0 : Int) + (i : Int)) = _; rw [wI (by omega)]; simp)
         | exact leA_int (by simp; omega)
         | exact leA_int (by simp; split <;> omega)
     · (refine ⟨by kernel_rfl, ?_⟩; (conv => whnf))
       refine ix1 ?_
       (conv => whnf)
       refine ⟨[], _, ih2, ?_⟩
       (conv => whnf)
       refine ⟨2, by omega, by decide, ?_⟩
       ((conv => whnf); refine And.intro ?_ ?_; repeat' first | refine leL_cons ?_ ?_ | exact leA_any | exact leA_refl rfl | exact leL_nil | refine leH_cons ?_ ?_ | exact leH_nil | exact leB_free | exact leB_dead | refine leB_cells ?_ | exact leB_map rfl | exact leB_gst rfl | exact leA_nil rfl | refine leA_agg ?_ | refine leA_tup ?_ | fail)
       first
         | exact leA_int (by show IntKind.i64.wrap ((i : Int) + (j : Int)) = _; rw [wI (by omega)]; simp [hD, deg2])
         | exact leA_int (by simp [hD, deg2]; omega)
         | exact leA_int (by simp [hD, deg2]; split <;> omega)
         | exact leA_int (by simp [hD, deg2])
     · (refine ⟨by kernel_rfl, ?_⟩; (conv => whnf))
       exact ⟨leA_dg rfl, leH_nil⟩)
end Go.Proofs.Ytmcdnbmamoggoaa
