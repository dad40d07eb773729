/-
  Degrees: derive.degree of operations with two operands: the first has none.
-/
import Derived.Test.YtmcdnbmamoggoaaQUM
set_option linter.unusedVariables false
set_option linter.unusedSimpArgs false
namespace Go.Proofs.Ytmcdnbmamoggoaa
open Go Go.Sx
set_option maxRecDepth 100000
set_option maxHeartbeats 8000000
theorem f68_two1 (nm : Bytes) (k : Int) (a b : Ex) (hk : K2 k) (o : Option Nat) (ih : Fn 68 [] [.agg (exC a), .str nm] (dgV none) []) : Fn 68 [] [.agg (exC (opE k 0 [a, b])), .str nm] (dgV (degO k 0 [none, o])) [] := by
  rcases hk with rfl | rfl | rfl | rfl <;>
  (refine fnT hT hmx Try.func68 rfl rfl (ex := []) ?_
   (conv => whnf)
   refine ⟨Unit, fun _ => True, fun _ => [(23, .int .i64 0), (6, .int .i64 0)], fun _ => [], fun _ => 0, (), trivial, ?_, fun _ _ => ?_⟩
   · ((conv => whnf); refine And.intro ?_ ?_; repeat' first | refine leL_cons ?_ ?_ | exact leA_any | exact leA_refl rfl | exact leL_nil | refine leH_cons ?_ ?_ | exact leH_nil | exact leB_free | exact leB_dead | refine leB_cells ?_ | exact leB_map rfl | exact leB_gst rfl | exact leA_nil rfl | refine leA_agg ?_ | refine leA_tup ?_ | fail)
   · (refine ⟨by kernel_rfl, ?_⟩; (conv => whnf))
     refine ix0 ?_
     (conv => whnf)
     refine ⟨[], _, ih, ?_⟩
     (conv => whnf)
     exact ⟨leA_dgno (by cases o <;> rfl), leH_nil⟩)
end Go.Proofs.Ytmcdnbmamoggoaa
