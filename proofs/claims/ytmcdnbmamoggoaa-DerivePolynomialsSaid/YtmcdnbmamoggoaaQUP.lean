/-
  The law: DerivePolynomials.
-/
import Derived.Test.YtmcdnbmamoggoaaQUn
import Derived.Test.YtmcdnbmamoggoaaQPk
import Derived.Test.YtmcdnbmamoggoaaQUL
set_option linter.unusedVariables false
set_option linter.unusedSimpArgs false
namespace Go.Proofs.Ytmcdnbmamoggoaa
open Go Go.Sx
set_option maxRecDepth 100000
set_option maxHeartbeats 8000000
theorem f4 (e : Ex) (n : Bytes) (he : Sm e) (hn : n.length < 9223372036854775808) : Fn 4 [] [.agg (exC e), .str n] (.bool true) [] := by
  have h16 := f16 e n he hn
  have h21 := f21 e n he
  refine fnS hT hmx Try.func4 rfl rfl (ex := []) ?_
  conv => whnf
  refine ⟨[], _, f14, ?_⟩
  conv => whnf
  refine cbI [] (larE e 0) (f15 e he 0 (by omega)) (fun h1 => ?_) (fun h1 => ?_)
  · conv => whnf
    refine ⟨[], _, f14, ?_⟩
    conv => whnf
    exact ⟨leA_refl rfl, leH_nil⟩
  · conv => whnf
    refine brI (fun h2 => ?_) (fun h2 => ?_)
    · conv => whnf
      refine ⟨[], _, f14, ?_⟩
      conv => whnf
      exact ⟨leA_refl rfl, leH_nil⟩
    · conv => whnf
      cases h3 : okT e with
      | false =>
        have hp : poB e = false := by simp [poB, h3]
        rw [dgB_no hp] at h21
        refine ⟨[], _, h21, ?_⟩
        conv => whnf
        refine ⟨[], .bool false, (by rw [← h3]; exact f17 e he), ?_⟩
        conv => whnf
        refine ⟨[], .bool false, (by rw [← hp]; exact f22 e he), ?_⟩
        conv => whnf
        exact ⟨leA_refl rfl, leH_nil⟩
      | true =>
        have hv := okT_VT h3
        have h23 := f23 hv
        unfold PolROK at h23
        cases h4 : polE e with
        | false =>
          have hp : poB e = false := by simp [poB, h4]
          rw [dgB_no hp] at h21
          rw [h4] at h23
          refine ⟨[], _, h21, ?_⟩
          conv => whnf
          refine ⟨[], .bool true, (by rw [← h3]; exact f17 e he), ?_⟩
          conv => whnf
          refine ⟨[], _, h23, ?_⟩
          conv => whnf
          refine ⟨[], .bool false, (by rw [← hp]; exact f22 e he), ?_⟩
          conv => whnf
          exact ⟨leA_refl rfl, leH_nil⟩
        | true =>
          have hp : poB e = true := by simp [poB, h3, h4]
          rw [dgB_yes hp] at h21
          rw [h4] at h23
          have h24 := f24 n hv h4
          unfold DegROK at h24
          unfold dgE at h21
          cases h5 : degE n e with
          | none =>
            rw [h5] at h21 h24
            refine ⟨[], _, h21, ?_⟩
            conv => whnf
            refine ⟨[], .bool true, (by rw [← h3]; exact f17 e he), ?_⟩
            conv => whnf
            refine ⟨[], _, h23, ?_⟩
            conv => whnf
            refine ⟨[], .bool true, (by rw [← hp]; exact f22 e he), ?_⟩
            conv => whnf
            refine ⟨[], .int .i64 (-1), h24, ?_⟩
            conv => whnf
            exact ⟨leA_refl rfl, leH_nil⟩
          | some d =>
            rw [h5] at h21 h24
            have hd := deg_le n hv h5
            refine ⟨[], _, h21, ?_⟩
            conv => whnf
            refine ⟨[], .bool true, (by rw [← h3]; exact f17 e he), ?_⟩
            conv => whnf
            refine ⟨[], _, h23, ?_⟩
            conv => whnf
            refine ⟨[], .bool true, (by rw [← hp]; exact f22 e he), ?_⟩
            conv => whnf
            refine ⟨[], .int .i64 (d : Int), h24, ?_⟩
            conv => whnf
            refine ⟨[], .int .i64 (d : Int), h24, ?_⟩
            conv => whnf
            refine brI (fun h => absurd (show ((d : Int) != (d : Int)) = true from h) (by simp)) (fun _ => ?_)
            conv => whnf
            cases h6 : nameB n with
            | false =>
              rw [dfE_no2 h6] at h16
              refine ⟨[], _, h16, ?_⟩
              conv => whnf
              exact ⟨leA_refl rfl, leH_nil⟩
            | true =>
              cases h7 : okT (diffE n (simE e)) with
              | false =>
                rw [dfE_no3 h3 h6 h7] at h16
                refine ⟨[], _, h16, ?_⟩
                conv => whnf
                exact ⟨leA_refl rfl, leH_nil⟩
              | true =>
                have hvd := VT_diff n (VT_sim hv)
                obtain ⟨hpd, m, hm, hle⟩ := dg_law h3 h4 h5 h7
                have hpd : poB (diffE n (simE e)) = true := hpd
                rw [dfE_yes h3 h6 h7] at h16
                have h21d := f21 (diffE n (simE e)) n (VT_Sm hvd)
                rw [hm] at h21d
                have h22d : Fn 22 [] [.agg (exC (diffE n (simE e)))] (.bool true) [] := by rw [← hpd]; exact f22 _ (VT_Sm hvd)
                generalize diffE n (simE e) = dd at h16 h21d h22d
                refine ⟨[], _, h16, ?_⟩
                conv => whnf
                refine ⟨[], _, h21d, ?_⟩
                conv => whnf
                refine ⟨[], _, h22d, ?_⟩
                conv => whnf
                refine ⟨leA_bool ?_, leH_nil⟩
                rw [wI (x := (d : Int) - 1) (by omega)]
                exact decide_eq_true (by split <;> omega)
end Go.Proofs.Ytmcdnbmamoggoaa
