/-
  The law: DeriveDiffs.
-/
import Derived.Test.YtmcdnbmamoggoaaQUL
import Derived.Test.YtmcdnbmamoggoaaQRG
set_option linter.unusedVariables false
set_option linter.unusedSimpArgs false
namespace Go.Proofs.Ytmcdnbmamoggoaa
open Go Go.Sx
set_option maxRecDepth 100000
set_option maxHeartbeats 8000000
theorem same_zz : sameE zeroE zeroE = true := same_zero
/-- The answer of same for what Diff gives beside an error. -/
theorem f19_zero : Fn 19 [] [.agg (exC zeroE), nilV 0 ⟨0, 0⟩ [] 0] (.bool true) [] := by
  refine nil2 ?_
  rw [← same_zero]; exact f19 zeroE zeroE
theorem f19_self {d : Ex} (h : VT d) : Fn 19 [] [.agg (exC d), .agg (exC d)] (.bool true) [] := by
  rw [← same_refl h]; exact f19 d d
theorem f3 (e : Ex) (n : Bytes) (he : Sm e) (hn : n.length < 9223372036854775808) : Fn 3 [] [.agg (exC e), .str n] (.bool true) [] := by
  have h16 := f16 e n he hn
  refine fnS hT hmx Try.func3 rfl rfl (ex := []) ?_
  conv => whnf
  refine ⟨[], _, f14, ?_⟩
  conv => whnf
  refine cbI [] (larE e 0) (f15 e he 0 (by omega)) (fun h1 => ?_) (fun h1 => ?_)
  · conv => whnf
    refine ⟨[], _, f14, ?_⟩
    conv => whnf
    exact ⟨leA_refl rfl, leH_nil⟩
  · conv => whnf
    refine brI (fun h2 => ?_) (fun h2 => ?_)
    · conv => whnf
      refine ⟨[], _, f14, ?_⟩
      conv => whnf
      exact ⟨leA_refl rfl, leH_nil⟩
    · conv => whnf
      cases h3 : okT e with
      | false =>
        rw [dfE_no1 h3] at h16
        refine ⟨[], _, h16, ?_⟩
        conv => whnf
        refine ⟨[], .bool false, (by rw [← h3]; exact f17 e he), ?_⟩
        conv => whnf
        refine ⟨[], _, f19_zero, ?_⟩
        conv => whnf
        exact ⟨leA_refl rfl, leH_nil⟩
      | true =>
        have hv := okT_VT h3
        cases h4 : nameB n with
        | false =>
          rw [dfE_no2 h4] at h16
          refine ⟨[], _, h16, ?_⟩
          conv => whnf
          refine ⟨[], .bool true, (by rw [← h3]; exact f17 e he), ?_⟩
          conv => whnf
          refine ⟨[], _, f18 n, ?_⟩
          conv => whnf
          refine ⟨[], .bool false, (by rw [← h4, ← ok_var]; exact f17 (varE n) (Sm_var hn)), ?_⟩
          conv => whnf
          refine ⟨[], _, f19_zero, ?_⟩
          conv => whnf
          exact ⟨leA_refl rfl, leH_nil⟩
        | true =>
          have h20 := f20 (nm := n) hv (by have := ((okT_iff e).1 h3).2.1; omega)
          rw [← dfR_eq h3 h4] at h20
          cases h5 : okT (diffE n (simE e)) with
          | false =>
            rw [dfE_no3 h3 h4 h5] at h16 h20
            refine ⟨[], _, h16, ?_⟩
            conv => whnf
            refine ⟨[], .bool true, (by rw [← h3]; exact f17 e he), ?_⟩
            conv => whnf
            refine ⟨[], _, f18 n, ?_⟩
            conv => whnf
            refine ⟨[], .bool true, (by rw [← h4, ← ok_var]; exact f17 (varE n) (Sm_var hn)), ?_⟩
            conv => whnf
            refine ⟨[], _, h20, ?_⟩
            conv => whnf
            refine ⟨[], .bool true, (by rw [← same_zero]; exact f19 zeroE zeroE), ?_⟩
            conv => whnf
            exact ⟨leA_refl rfl, leH_nil⟩
          | true =>
            have hvd := VT_diff n (VT_sim hv)
            rw [dfE_yes h3 h4 h5] at h16 h20
            generalize diffE n (simE e) = d at h16 h20 h5 hvd
            refine ⟨[], _, h16, ?_⟩
            conv => whnf
            refine ⟨[], .bool true, (by rw [← h3]; exact f17 e he), ?_⟩
            conv => whnf
            refine ⟨[], _, f18 n, ?_⟩
            conv => whnf
            refine ⟨[], .bool true, (by rw [← h4, ← ok_var]; exact f17 (varE n) (Sm_var hn)), ?_⟩
            conv => whnf
            refine ⟨[], _, h20, ?_⟩
            conv => whnf
            refine ⟨[], _, f19_self hvd, ?_⟩
            conv => whnf
            refine ⟨[], .bool true, (by rw [← h5]; exact f17 d (VT_Sm hvd)), ?_⟩
            conv => whnf
            exact ⟨leA_refl rfl, leH_nil⟩
end Go.Proofs.Ytmcdnbmamoggoaa
