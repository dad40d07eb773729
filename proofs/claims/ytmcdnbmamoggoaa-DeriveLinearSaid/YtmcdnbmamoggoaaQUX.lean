/-
  The law: DeriveLinear.
-/
import Derived.Test.YtmcdnbmamoggoaaQUx
set_option linter.unusedVariables false
set_option linter.unusedSimpArgs false
namespace Go.Proofs.Ytmcdnbmamoggoaa
open Go Go.Sx
set_option maxRecDepth 100000
set_option maxHeartbeats 8000000
theorem f6 (a0 b0 : Ex) (n : Bytes) (ha0 : Sm a0) (hb0 : Sm b0) (hn : n.length < 9223372036854775808) : Fn 6 [] [.agg (exC a0), .agg (exC b0), .str n] (.bool true) [] := by
  have h25a := f25 a0 ha0
  have h25b := f25 b0 hb0
  refine fnS hT hmx Try.func6 rfl rfl (ex := []) ?_
  conv => whnf
  refine ⟨[], _, f14, ?_⟩
  conv => whnf
  refine cbI [] (smB a0) (f28 a0 ha0) (fun h1 => ?_) (fun h1 => ?_)
  rotate_left
  · conv => whnf
    refine ⟨[], _, f14, ?_⟩
    conv => whnf
    exact ⟨leA_refl rfl, leH_nil⟩
  conv => whnf
  refine cbI [] (smB b0) (f28 b0 hb0) (fun h2 => ?_) (fun h2 => ?_)
  rotate_left
  · conv => whnf
    refine ⟨[], _, f14, ?_⟩
    conv => whnf
    exact ⟨leA_refl rfl, leH_nil⟩
  conv => whnf
  refine ⟨[], _, f18 n, ?_⟩
  conv => whnf
  cases h3 : nameB n with
  | false =>
    refine ⟨[], .bool false, (by rw [← h3, ← ok_var]; exact f17 (varE n) (Sm_var hn)), ?_⟩
    conv => whnf
    refine ⟨[], _, f14, ?_⟩
    conv => whnf
    exact ⟨leA_refl rfl, leH_nil⟩
  | true =>
    refine ⟨[], .bool true, (by rw [← h3, ← ok_var]; exact f17 (varE n) (Sm_var hn)), ?_⟩
    have hoa := ok_sim (smB_ok h1)
    have hob := ok_sim (smB_ok h2)
    have hsa := SP_sim (okT_VT (smB_ok h1))
    have hsb := SP_sim (okT_VT (smB_ok h2))
    rw [siE_yes (smB_ok h1)] at h25a
    rw [siE_yes (smB_ok h2)] at h25b
    generalize simE a0 = a at h25a hoa hsa
    generalize simE b0 = b at h25b hob hsb
    conv => whnf
    refine ⟨[], _, h25a, ?_⟩
    conv => whnf
    refine ⟨[], _, h25b, ?_⟩
    conv => whnf
    (refine ⟨by kernel_rfl, by kernel_rfl, ?_⟩; (conv => whnf))
    have h16a := f16 a n (VT_Sm (SP_VT hsa)) hn
    have h16b := f16 b n (VT_Sm (SP_VT hsb)) hn
    have hda : (dfE a n).2 = 0 → (dfE a n).1 = diffE n a := by
      intro h
      cases h4 : okT (diffE n (simE a)) with
      | false => rw [dfE_no3 hoa h3 h4] at h; simp at h
      | true => rw [dfE_yes hoa h3 h4, sim_SP hsa]
    have hdb : (dfE b n).2 = 0 → (dfE b n).1 = diffE n b := by
      intro h
      cases h4 : okT (diffE n (simE b)) with
      | false => rw [dfE_no3 hob h3 h4] at h; simp at h
      | true => rw [dfE_yes hob h3 h4, sim_SP hsb]
    generalize dfE a n = A at h16a hda
    generalize dfE b n = B at h16b hdb
    obtain ⟨x, kx⟩ := A
    obtain ⟨y, ky⟩ := B
    simp only at hda hdb
    by_cases hkx : kx = 0
    rotate_left
    · refine ⟨[], _, h16a, ?_⟩
      conv => whnf
      refine ⟨[], _, h16b, ?_⟩
      conv => whnf
      refine brI (fun h6 => ?_) (fun h6 => absurd (by simpa using h6) hkx)
      conv => whnf
      exact ⟨leA_refl rfl, leH_nil⟩
    subst hkx
    by_cases hky : ky = 0
    rotate_left
    · refine ⟨[], _, h16a, ?_⟩
      conv => whnf
      refine ⟨[], _, h16b, ?_⟩
      conv => whnf
      refine brI (fun h6 => ?_) (fun h6 => absurd (by simpa using h6) hky)
      conv => whnf
      exact ⟨leA_refl rfl, leH_nil⟩
    subst hky
    have hda := hda rfl
    have hdb := hdb rfl
    refine ⟨[], _, h16a, ?_⟩
    conv => whnf
    refine ⟨[], _, h16b, ?_⟩
    conv => whnf
    refine brI (fun h6 => ?_) (fun h6 => ?_)
    · conv => whnf
      exact ⟨leA_refl rfl, leH_nil⟩
    have h6 : a.k ≠ 1 := by simpa using h6
    conv => whnf
    refine brI (fun h7 => ?_) (fun h7 => ?_)
    · conv => whnf
      exact ⟨leA_refl rfl, leH_nil⟩
    have h7 : b.k ≠ 1 := by simpa using h7
    have htab := lin_tab hsa hsb h6 h7 x y hda hdb
    conv => whnf
    refine ⟨[], _, f29 3 a b, ?_⟩
    conv => whnf
    refine ⟨[], _, f29 3 x y, ?_⟩
    conv => whnf
    refine ⟨[], _, f29 4 a b, ?_⟩
    conv => whnf
    refine ⟨[], _, f29 4 x y, ?_⟩
    conv => whnf
    refine ⟨[], _, f29 5 a b, ?_⟩
    conv => whnf
    refine ⟨[], _, f29 5 x b, ?_⟩
    conv => whnf
    refine ⟨[], _, f29 5 a y, ?_⟩
    conv => whnf
    refine ⟨[], _, f29 3 (opE 5 0 [x, b]) (opE 5 0 [a, y]), ?_⟩
    conv => whnf
    (refine ⟨by kernel_rfl, by kernel_rfl, ?_⟩; (conv => whnf))
    rw [Ex.eta2, Ex.eta2, Ex.eta2, Ex.eta2, Ex.eta2, Ex.eta2]
    have hlen : ([(opE 3 0 [a, b], opE 3 0 [x, y]), (opE 4 0 [a, b], opE 4 0 [x, y]), (opE 5 0 [a, b], opE 3 0 [opE 5 0 [x, b], opE 5 0 [a, y]])] : List (Ex × Ex)).length = 3 := rfl
    generalize ([(opE 3 0 [a, b], opE 3 0 [x, y]), (opE 4 0 [a, b], opE 4 0 [x, y]), (opE 5 0 [a, b], opE 3 0 [opE 5 0 [x, b], opE 5 0 [a, y]])] : List (Ex × Ex)) = tab at htab hlen ⊢
    refine ⟨Nat, fun i => i ≤ 3, fun i => [(102, .int .i64 i)], fun _ => [], fun i => 3 - i, 0, by omega, ?_, fun i hi => ?_⟩
    · ((conv => whnf); refine And.intro ?_ ?_; repeat' first | refine leL_cons ?_ ?_ | exact leA_any | exact leA_refl rfl | exact leL_nil | refine leH_cons ?_ ?_ | exact leH_nil | exact leB_free | exact leB_dead | refine leB_cells ?_ | exact leB_map rfl | exact leB_gst rfl | exact leA_nil rfl | refine leA_agg ?_ | refine leA_tup ?_ | fail)
    (refine ⟨by kernel_rfl, ?_⟩; (conv => whnf))
    refine brI (fun h8 => ?_) (fun h8 => ?_)
    rotate_left
    · conv => whnf
      exact ⟨leA_refl rfl, leH_nil⟩
    conv => whnf
    have h8 : i < 3 := by simp only [decide_eq_true_eq] at h8; omega
    refine ⟨⟨by omega, by omega⟩, fun p hp => ?_⟩
    have hp := List.mem_of_getElem? hp
    have hl : LinP n p := htab p hp
    clear htab hp
    have hu := @lin_use n p hl
    obtain ⟨hv1, hv2, _⟩ := hl
    obtain ⟨c, z⟩ := p
    simp only at hu hv1 hv2
    have h16c := f16 c n (VT_Sm hv1) hn
    generalize dfE c n = D at h16c hu
    obtain ⟨d, k⟩ := D
    simp only at hu
    conv => whnf
    refine ⟨⟨by omega, by omega⟩, ?_⟩
    conv => whnf
    by_cases hk : k = 0
    rotate_left
    · refine ⟨[], _, h16c, ?_⟩
      conv => whnf
      refine brI (fun h9 => absurd (by simpa using h9) hk) (fun h9 => ?_)
      conv => whnf
      (refine ⟨by kernel_rfl, by kernel_rfl, ?_⟩; (conv => whnf))
      refine ⟨i + 1, by show i + 1 ≤ 3; omega, by show 3 - (i + 1) < 3 - i; omega, ?_⟩
      ((conv => whnf); refine And.intro ?_ ?_; repeat' first | refine leL_cons ?_ ?_ | exact leA_any | exact leA_refl rfl | exact leL_nil | refine leH_cons ?_ ?_ | exact leH_nil | exact leB_free | exact leB_dead | refine leB_cells ?_ | exact leB_map rfl | exact leB_gst rfl | exact leA_nil rfl | refine leA_agg ?_ | refine leA_tup ?_ | fail)
      exact leA_int (by rw [wI (by omega)]; omega)
    subst hk
    refine ⟨[], _, h16c, ?_⟩
    conv => whnf
    refine ⟨⟨by omega, by omega⟩, ?_⟩
    conv => whnf
    cases h10 : okT z with
    | false =>
      refine ⟨[], .bool false, (by rw [← h10]; exact f17 z (VT_Sm hv2)), ?_⟩
      conv => whnf
      (refine ⟨by kernel_rfl, by kernel_rfl, ?_⟩; (conv => whnf))
      refine ⟨i + 1, by show i + 1 ≤ 3; omega, by show 3 - (i + 1) < 3 - i; omega, ?_⟩
      ((conv => whnf); refine And.intro ?_ ?_; repeat' first | refine leL_cons ?_ ?_ | exact leA_any | exact leA_refl rfl | exact leL_nil | refine leH_cons ?_ ?_ | exact leH_nil | exact leB_free | exact leB_dead | refine leB_cells ?_ | exact leB_map rfl | exact leB_gst rfl | exact leA_nil rfl | refine leA_agg ?_ | refine leA_tup ?_ | fail)
      exact leA_int (by rw [wI (by omega)]; omega)
    | true =>
      obtain ⟨hd, hvz⟩ := hu rfl h10
      have h25z := f25 z (VT_Sm hv2)
      rw [siE_yes h10, ← hd] at h25z
      have hvd : VT d := by rw [hd]; exact hvz
      refine ⟨[], .bool true, (by rw [← h10]; exact f17 z (VT_Sm hv2)), ?_⟩
      conv => whnf
      refine ⟨⟨by omega, by omega⟩, ?_⟩
      conv => whnf
      refine ⟨[], _, h25z, ?_⟩
      conv => whnf
      refine ⟨[], _, f19_self hvd, ?_⟩
      conv => whnf
      (refine ⟨by kernel_rfl, by kernel_rfl, ?_⟩; (conv => whnf))
      refine ⟨i + 1, by show i + 1 ≤ 3; omega, by show 3 - (i + 1) < 3 - i; omega, ?_⟩
      ((conv => whnf); refine And.intro ?_ ?_; repeat' first | refine leL_cons ?_ ?_ | exact leA_any | exact leA_refl rfl | exact leL_nil | refine leH_cons ?_ ?_ | exact leH_nil | exact leB_free | exact leB_dead | refine leB_cells ?_ | exact leB_map rfl | exact leB_gst rfl | exact leA_nil rfl | refine leA_agg ?_ | refine leA_tup ?_ | fail)
      exact leA_int (by rw [wI (by omega)]; omega)
end Go.Proofs.Ytmcdnbmamoggoaa
