/-
  Degrees: derive.degree of operations with two operands: the second has none.
-/
import Derived.Test.YtmcdnbmamoggoaaQUM
set_option linter.unusedVariables false
set_option linter.unusedSimpArgs false
namespace Go.Proofs.Ytmcdnbmamoggoaa
open Go Go.Sx
set_option maxRecDepth 100000
set_option maxHeartbeats 8000000
theorem f68_two2 (nm : Bytes) (k : Int) (a b : Ex) (hk : K2 k) (i : Nat) (hi : i ≤ 1000) (ih : Fn 68 [] [.agg (exC a), .str nm] (dgV (some i)) []) (ih2 : Fn 68 [] [.agg (exC b), .str nm] (dgV none) []) : Fn 68 [] [.agg (exC (opE k 0 [a, b])), .str nm] (dgV (degO k 0 [(some i), none])) [] := by
  rcases hk with rfl | rfl | rfl | rfl <;>
  (refine fnT hT hmx Try.func68 rfl rfl (ex := []) ?_
   (conv => whnf)
   refine ⟨Bool, fun _ => True, fun x => [(23, .int .i64 (if x then 1 else 0)), (6, .int .i64 (if x then i else 0))], fun _ => [], fun x => if x then 0 else 1, false, trivial, ?_, fun x _ => ?_⟩
   · ((conv => whnf); refine And.intro ?_ ?_; repeat' first | refine leL_cons ?_ ?_ | exact leA_any | exact leA_refl rfl | exact leL_nil | refine leH_cons ?_ ?_ | exact leH_nil | exact leB_free | exact leB_dead | refine leB_cells ?_ | exact leB_map rfl | exact leB_gst rfl | exact leA_nil rfl | refine leA_agg ?_ | refine leA_tup ?_ | fail)
   · cases x with
     | false =>
       (refine ⟨by kernel_rfl, ?_⟩; (conv => whnf))
       refine ix0 ?_
       (conv => whnf)
       refine ⟨[], _, ih, ?_⟩
       (conv => whnf)
       refine ⟨true, trivial, by decide, ?_⟩
       ((conv => whnf); refine And.intro ?_ ?_; repeat' first | refine leL_cons ?_ ?_ | exact leA_any | exact leA_refl rfl | exact leL_nil | refine leH_cons ?_ ?_ | exact leH_nil | exact leB_free | exact leB_dead | refine leB_cells ?_ | exact leB_map rfl | exact leB_gst rfl | exact leA_nil rfl | refine leA_agg ?_ | refine leA_tup ?_ | fail)
       first
         | exact leA_int (by show IntKind.i64.wrap ((0 : Int) + (i : Int)) = _; rw [wI (by omega)]; simp)
         | exact leA_int (by simp only [if_true]; split <;> simp_all <;> omega)
     | true =>
       (refine ⟨by kernel_rfl, ?_⟩; (conv => whnf))
       refine ix1 ?_
       (conv => whnf)
       refine ⟨[], _, ih2, ?_⟩
       (conv => whnf)
       exact ⟨leA_dgno rfl, leH_nil⟩)
end Go.Proofs.Ytmcdnbmamoggoaa
