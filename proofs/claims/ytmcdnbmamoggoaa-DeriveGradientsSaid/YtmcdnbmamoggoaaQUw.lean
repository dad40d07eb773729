/-
  The law: DeriveDiffs.
-/
import Derived.Test.YtmcdnbmamoggoaaQUL
import Derived.Test.YtmcdnbmamoggoaaQRG
import Derived.Test.YtmcdnbmamoggoaaQRE
import Derived.Test.YtmcdnbmamoggoaaQUs
set_option linter.unusedVariables false
set_option linter.unusedSimpArgs false
namespace Go.Proofs.Ytmcdnbmamoggoaa
open Go Go.Sx
set_option maxRecDepth 100000
set_option maxHeartbeats 8000000
theorem same_zz : sameE zeroE zeroE = true := same_zero
/-- The answer of same for what Diff gives beside an error. -/
theorem f19_zero : Fn 19 [] [.agg (exC zeroE), nilV 0 ⟨0, 0⟩ [] 0] (.bool true) [] := by
  refine nil2 ?_
  rw [← same_zero]; exact f19 zeroE zeroE
theorem f19_self {d : Ex} (h : VT d) : Fn 19 [] [.agg (exC d), .agg (exC d)] (.bool true) [] := by
  rw [← same_refl h]; exact f19 d d
theorem f3 (e : Ex) (n : Bytes) (he : Sm e) (hn : n.length < 9223372036854775808) : Fn 3 [] [.agg (exC e), .str n] (.bool true) [] := by
  have h16 := f16 e n he hn
  refine fnS hT hmx Try.func3 rfl rfl (ex := []) ?_
  conv => whnf
  refine ⟨[], _, f14, ?_⟩
  conv => whnf
  refine cbI [] (larE e 0) (f15 e he 0 (by omega)) (fun h1 => ?_) (fun h1 => ?_)
  · conv => whnf
    refine ⟨[], _, f14, ?_⟩
    conv => whnf
    exact ⟨leA_refl rfl, leH_nil⟩
  · conv => whnf
    refine brI (fun h2 => ?_) (fun h2 => ?_)
    · conv => whnf
      refine ⟨[], _, f14, ?_⟩
      conv => whnf
      exact ⟨leA_refl rfl, leH_nil⟩
    · conv => whnf
      cases h3 : okT e with
      | false =>
        rw [dfE_no1 h3] at h16
        refine ⟨[], _, h16, ?_⟩
        conv => whnf
        refine ⟨[], .bool false, (by rw [← h3]; exact f17 e he), ?_⟩
        conv => whnf
        refine ⟨[], _, f19_zero, ?_⟩
        conv => whnf
        exact ⟨leA_refl rfl, leH_nil⟩
      | true =>
        have hv := okT_VT h3
        cases h4 : nameB n with
        | false =>
          rw [dfE_no2 h4] at h16
          refine ⟨[], _, h16, ?_⟩
          conv => whnf
          refine ⟨[], .bool true, (by rw [← h3]; exact f17 e he), ?_⟩
          conv => whnf
          refine ⟨[], _, f18 n, ?_⟩
          conv => whnf
          refine ⟨[], .bool false, (by rw [← h4, ← ok_var]; exact f17 (varE n) (Sm_var hn)), ?_⟩
          conv => whnf
          refine ⟨[], _, f19_zero, ?_⟩
          conv => whnf
          exact ⟨leA_refl rfl, leH_nil⟩
        | true =>
          have h20 := f20 (nm := n) hv (by have := ((okT_iff e).1 h3).2.1; omega)
          rw [← dfR_eq h3 h4] at h20
          cases h5 : okT (diffE n (simE e)) with
          | false =>
            rw [dfE_no3 h3 h4 h5] at h16 h20
            refine ⟨[], _, h16, ?_⟩
            conv => whnf
            refine ⟨[], .bool true, (by rw [← h3]; exact f17 e he), ?_⟩
            conv => whnf
            refine ⟨[], _, f18 n, ?_⟩
            conv => whnf
            refine ⟨[], .bool true, (by rw [← h4, ← ok_var]; exact f17 (varE n) (Sm_var hn)), ?_⟩
            conv => whnf
            refine ⟨[], _, h20, ?_⟩
            conv => whnf
            refine ⟨[], .bool true, (by rw [← same_zero]; exact f19 zeroE zeroE), ?_⟩
            conv => whnf
            exact ⟨leA_refl rfl, leH_nil⟩
          | true =>
            have hvd := VT_diff n (VT_sim hv)
            rw [dfE_yes h3 h4 h5] at h16 h20
            generalize diffE n (simE e) = d at h16 h20 h5 hvd
            refine ⟨[], _, h16, ?_⟩
            conv => whnf
            refine ⟨[], .bool true, (by rw [← h3]; exact f17 e he), ?_⟩
            conv => whnf
            refine ⟨[], _, f18 n, ?_⟩
            conv => whnf
            refine ⟨[], .bool true, (by rw [← h4, ← ok_var]; exact f17 (varE n) (Sm_var hn)), ?_⟩
            conv => whnf
            refine ⟨[], _, h20, ?_⟩
            conv => whnf
            refine ⟨[], _, f19_self hvd, ?_⟩
            conv => whnf
            refine ⟨[], .bool true, (by rw [← h5]; exact f17 d (VT_Sm hvd)), ?_⟩
            conv => whnf
            exact ⟨leA_refl rfl, leH_nil⟩
end Go.Proofs.Ytmcdnbmamoggoaa

/-
  The law: DeriveSimplifies.
-/
namespace Go.Proofs.Ytmcdnbmamoggoaa
open Go Go.Sx
set_option maxRecDepth 100000
set_option maxHeartbeats 8000000
theorem siE_no {e : Ex} (h : okT e = false) : siE e = zeroE := by simp [siE, h]
theorem siE_yes {e : Ex} (h : okT e = true) : siE e = simE e := by simp [siE, h]
theorem szN_yes {e : Ex} (h : okT e = true) : szN e = sizE e := by simp [szN, h]
theorem f5 (e : Ex) (n : Bytes) (he : Sm e) (hn : n.length < 9223372036854775808) : Fn 5 [] [.agg (exC e), .str n] (.bool true) [] := by
  have h16 := f16 e n he hn
  have h25 := f25 e he
  refine fnS hT hmx Try.func5 rfl rfl (ex := []) ?_
  conv => whnf
  refine ⟨[], _, f14, ?_⟩
  conv => whnf
  refine cbI [] (larE e 0) (f15 e he 0 (by omega)) (fun h1 => ?_) (fun h1 => ?_)
  · conv => whnf
    refine ⟨[], _, f14, ?_⟩
    conv => whnf
    exact ⟨leA_refl rfl, leH_nil⟩
  · conv => whnf
    refine brI (fun h2 => ?_) (fun h2 => ?_)
    · conv => whnf
      refine ⟨[], _, f14, ?_⟩
      conv => whnf
      exact ⟨leA_refl rfl, leH_nil⟩
    · conv => whnf
      cases h3 : okT e with
      | false =>
        rw [siE_no h3] at h25
        refine ⟨[], _, h25, ?_⟩
        conv => whnf
        refine ⟨[], .bool false, (by rw [← h3]; exact f17 e he), ?_⟩
        conv => whnf
        refine ⟨[], _, f19_zero, ?_⟩
        conv => whnf
        exact ⟨leA_refl rfl, leH_nil⟩
      | true =>
        have hv := okT_VT h3
        have hs := VT_sim hv
        have hks := ok_sim h3
        have h26 : Fn 26 [] [.agg (exC e)] (.agg (exC (simE e))) [] := f26 hv
        have h25s := f25 (simE e) (VT_Sm hs)
        have h27 := f27 e he
        have h27s := f27 (simE e) (VT_Sm hs)
        have hsz := siz_sim hv
        have hdd := sim_diff n hv
        have hdv := VT_diff n hs
        rw [siE_yes h3] at h25
        rw [siE_yes hks, sim_sim hv] at h25s
        rw [szN_yes h3] at h27
        rw [szN_yes hks] at h27s
        have h16' : dfE e n = (diffE n (simE e), 0) ∧ okT (diffE n (simE e)) = true ∨ ∃ z k, dfE e n = (z, k) ∧ k ≠ 0 := by
          cases h4 : nameB n with
          | false => exact .inr ⟨_, _, dfE_no2 h4, by decide⟩
          | true =>
            cases h5 : okT (diffE n (simE e)) with
            | false => exact .inr ⟨_, _, dfE_no3 h3 h4 h5, by decide⟩
            | true => exact .inl ⟨dfE_yes h3 h4 h5, rfl⟩
        generalize dfE e n = D at h16 h16'
        generalize simE e = s at *
        generalize sizE e = a at *
        generalize sizE s = b at *
        refine ⟨[], _, h25, ?_⟩
        conv => whnf
        refine ⟨[], .bool true, (by rw [← h3]; exact f17 e he), ?_⟩
        conv => whnf
        refine ⟨[], _, h26, ?_⟩
        conv => whnf
        refine ⟨[], _, f19_self hs, ?_⟩
        conv => whnf
        refine ⟨[], _, h25s, ?_⟩
        conv => whnf
        refine ⟨[], _, f19_self hs, ?_⟩
        conv => whnf
        refine ⟨[], _, h27s, ?_⟩
        conv => whnf
        refine ⟨[], _, h27, ?_⟩
        conv => whnf
        refine brI (fun h6 => absurd h6 (by simp; omega)) (fun h6 => ?_)
        conv => whnf
        refine ⟨[], .bool true, (by rw [← hks]; exact f17 s (VT_Sm hs)), ?_⟩
        conv => whnf
        (refine ⟨by kernel_rfl, by kernel_rfl, ?_⟩; (conv => whnf))
        rcases h16' with ⟨rfl, h5⟩ | ⟨z, k, rfl, h5⟩
        · have h25d := f25 (diffE n s) (VT_Sm hdv)
          rw [siE_yes h5, hdd] at h25d
          generalize diffE n s = d at *
          refine ⟨[], _, h16, ?_⟩
          conv => whnf
          refine ⟨[], _, h25d, ?_⟩
          conv => whnf
          refine ⟨[], _, f19_self hdv, ?_⟩
          conv => whnf
          (refine ⟨by kernel_rfl, by kernel_rfl, ?_⟩; (conv => whnf))
          exact ⟨leA_refl rfl, leH_nil⟩
        · refine ⟨[], _, h16, ?_⟩
          conv => whnf
          refine brI (fun h6 => ?_) (fun h6 => absurd (by simpa using h6) h5)
          conv => whnf
          (refine ⟨by kernel_rfl, by kernel_rfl, ?_⟩; (conv => whnf))
          exact ⟨leA_refl rfl, leH_nil⟩
end Go.Proofs.Ytmcdnbmamoggoaa
