/-
  Derivatives along a flow: derive.Along.
-/
import Derived.Test.YtmcdnbmamoggoaaQUG
import Derived.Test.YtmcdnbmamoggoaaQUI
import Derived.Test.YtmcdnbmamoggoaaQSxY
set_option linter.unusedVariables false
set_option linter.unusedSimpArgs false
namespace Go.Proofs.Ytmcdnbmamoggoaa
open Go Go.Sx
set_option maxRecDepth 100000
set_option maxHeartbeats 8000000
def sumD (e : Ex) : List Eqn → Bool → Ex → Option Ex
  | [], _, s => some s
  | q :: r, f, s => if (dfE e q.s).2 = 0 then sumD e r false (if f then op2 5 (dfE e q.s).1 (simE q.e) else op2 3 s (op2 5 (dfE e q.s).1 (simE q.e))) else none
/-- A name comes twice. -/
def dupS : List Eqn → List (Bytes × Bool) → Bool
  | [], _ => false
  | q :: r, es => if mget .str q.s false es then true else dupS r (mput .str q.s true es)
def flOk (fl : List Eqn) : Bool := fl.all fun q => okT q.e && nameB q.s
def alE (e : Ex) (fl : List Eqn) : Ex × Int := if 8 < fl.length then (zeroE, 5) else if (okT e && flOk fl) = true then (if dupS fl [] = true then (zeroE, 8) else match sumD e fl true (numE 0) with | none => (zeroE, 5) | some s => if okT s = true then (s, 0) else (zeroE, 5)) else (zeroE, 1)
theorem al_1 {e : Ex} {fl : List Eqn} (h : 8 < fl.length) : alE e fl = (zeroE, 5) := by simp [alE, h]
theorem al_2 {e : Ex} {fl : List Eqn} (h : ¬ 8 < fl.length) (h2 : (okT e && flOk fl) = false) : alE e fl = (zeroE, 1) := by simp only [alE, if_neg h, h2]; simp
theorem al_3 {e : Ex} {fl : List Eqn} (h : ¬ 8 < fl.length) (h2 : okT e = true) (h3 : flOk fl = true) (h4 : dupS fl [] = true) : alE e fl = (zeroE, 8) := by simp only [alE, if_neg h, h2, h3, h4]; simp
theorem al_4 {e : Ex} {fl : List Eqn} (h : ¬ 8 < fl.length) (h2 : okT e = true) (h3 : flOk fl = true) (h4 : dupS fl [] = false) (h5 : sumD e fl true (numE 0) = none) : alE e fl = (zeroE, 5) := by simp only [alE, if_neg h, h2, h3, h4, h5]; simp
theorem al_5 {e : Ex} {fl : List Eqn} (h : ¬ 8 < fl.length) (h2 : okT e = true) (h3 : flOk fl = true) (h4 : dupS fl [] = false) {s : Ex} (h5 : sumD e fl true (numE 0) = some s) (h6 : okT s = false) : alE e fl = (zeroE, 5) := by simp only [alE, if_neg h, h2, h3, h4, h5, h6]; simp
theorem al_6 {e : Ex} {fl : List Eqn} (h : ¬ 8 < fl.length) (h2 : okT e = true) (h3 : flOk fl = true) (h4 : dupS fl [] = false) {s : Ex} (h5 : sumD e fl true (numE 0) = some s) (h6 : okT s = true) : alE e fl = (s, 0) := by simp only [alE, if_neg h, h2, h3, h4, h5, h6]; simp
theorem dfE_two {e : Ex} {nm : Bytes} (h : okT e = true) (h2 : nameB nm = true) : (∃ d, dfE e nm = (d, 0) ∧ VT d) ∨ dfE e nm = (zeroE, 5) := by
  cases h3 : okT (diffE nm (simE e)) with
  | true => exact .inl ⟨_, dfE_yes h h2 h3, VT_diff nm (VT_sim (okT_VT h))⟩
  | false => exact .inr (dfE_no3 h h2 h3)
theorem flOk_mem {fl : List Eqn} (h : flOk fl = true) {q : Eqn} (hq : q ∈ fl) : okT q.e = true ∧ nameB q.s = true := by
  have := List.all_eq_true.1 h q hq
  simpa using this
theorem f36 (e : Ex) (fl : List Eqn) (he : Sm e) (hfl : ∀ q ∈ fl, Sm q.e ∧ q.s.length < 9223372036854775808) (hlen : fl.length < 9223372036854775808) :
    Fn 36 [] [.agg (exC e), .sl .eqn fl] (dfV (alE e fl)) [] := by
  obtain ⟨A, hA⟩ : ∃ A, alE e fl = A := ⟨_, rfl⟩
  rw [hA]
  refine fnT hT hmx Try.func36 rfl rfl (ex := []) ?_
  conv => whnf
  refine brI (fun h0 => ?_) (fun h0 => ?_)
  · conv => whnf
    have h0 : 8 < fl.length := by simp only [decide_eq_true_eq] at h0; omega
    exact ⟨leA_zero (hA.symm.trans <| al_1 h0), leH_nil⟩
  have h0 : ¬ 8 < fl.length := by simp only [decide_eq_false_iff_not] at h0; omega
  conv => whnf
  refine cbI [] (okT e) (f17 e he) (fun h1 => ?_) (fun h1 => ?_)
  rotate_left
  · conv => whnf
    exact ⟨leA_zero (hA.symm.trans <| al_2 h0 (by rw [h1]; rfl)), leH_nil⟩
  conv => whnf
  refine ⟨Nat, fun i => i ≤ fl.length ∧ flOk (fl.drop i) = flOk fl, fun i => [(27, .int .i64 i)], fun _ => [], fun i => fl.length - i, 0, ⟨by simp, rfl⟩, ?_, fun i hi => ?_⟩
  · ((conv => whnf); refine And.intro ?_ ?_; repeat' first | refine leL_cons ?_ ?_ | exact leA_any | exact leA_refl rfl | exact leL_nil | refine leH_cons ?_ ?_ | exact leH_nil | exact leB_free | exact leB_dead | refine leB_cells ?_ | exact leB_map rfl | exact leB_gst rfl | exact leA_nil rfl | refine leA_agg ?_ | refine leA_tup ?_ | fail)
  (refine ⟨by kernel_rfl, ?_⟩; (conv => whnf))
  obtain ⟨hi1, hi2⟩ := hi
  refine brI (fun h3 => ?_) (fun h3 => ?_)
  · conv => whnf
    have h3 : i < fl.length := by simp only [decide_eq_true_eq] at h3; omega
    refine ⟨⟨by omega, by omega⟩, fun q hq => ?_⟩
    have hq : fl[i]? = some q := by simpa using hq
    have hm := List.mem_of_getElem? hq
    rw [drop_get hq] at hi2
    simp only [flOk, List.all_cons] at hi2
    conv => whnf
    refine cbI [] (okT q.e) (f17 q.e (hfl q hm).1) (fun h4 => ?_) (fun h4 => ?_)
    · conv => whnf
      refine cbI [] (nameB q.s) (f62 q.s (hfl q hm).2) (fun h5 => ?_) (fun h5 => ?_)
      · conv => whnf
        refine ⟨i + 1, ⟨by omega, by rw [h4, h5] at hi2; simpa [flOk] using hi2⟩, by show fl.length - (i + 1) < fl.length - i; omega, ?_⟩
        ((conv => whnf); refine And.intro ?_ ?_; repeat' first | refine leL_cons ?_ ?_ | exact leA_any | exact leA_refl rfl | exact leL_nil | refine leH_cons ?_ ?_ | exact leH_nil | exact leB_free | exact leB_dead | refine leB_cells ?_ | exact leB_map rfl | exact leB_gst rfl | exact leA_nil rfl | refine leA_agg ?_ | refine leA_tup ?_ | fail)
        exact leA_int (by rw [wI (by omega)]; omega)
      · conv => whnf
        exact ⟨leA_zero (hA.symm.trans <| al_2 h0 (by rw [h5] at hi2; simp [flOk, ← hi2])), leH_nil⟩
    · conv => whnf
      exact ⟨leA_zero (hA.symm.trans <| al_2 h0 (by rw [h4] at hi2; simp [flOk, ← hi2])), leH_nil⟩
  have h3 : ¬ i < fl.length := by simp only [decide_eq_false_iff_not] at h3; omega
  have hok : flOk fl = true := by rw [← hi2, List.drop_of_length_le (by omega)]; rfl
  clear hi1 hi2 h3
  conv => whnf
  refine ⟨Nat × List (Bytes × Bool), fun x => x.1 ≤ fl.length ∧ dupS (fl.drop x.1) x.2 = dupS fl [], fun x => [(46, .int .i64 x.1)], fun x => [(43, .map .str .bool x.2)], fun x => fl.length - x.1, (0, []), ⟨by simp, rfl⟩, ?_, fun x hx => ?_⟩
  · ((conv => whnf); refine And.intro ?_ ?_; repeat' first | refine leL_cons ?_ ?_ | exact leA_any | exact leA_refl rfl | exact leL_nil | refine leH_cons ?_ ?_ | exact leH_nil | exact leB_free | exact leB_dead | refine leB_cells ?_ | exact leB_map rfl | exact leB_gst rfl | exact leA_nil rfl | refine leA_agg ?_ | refine leA_tup ?_ | fail)
  (refine ⟨by kernel_rfl, ?_⟩; (conv => whnf))
  obtain ⟨j, es⟩ := x
  obtain ⟨hj1, hj2⟩ := hx
  simp only at hj1 hj2
  refine brI (fun h3 => ?_) (fun h3 => ?_)
  · conv => whnf
    have h3 : j < fl.length := by simp only [decide_eq_true_eq] at h3; omega
    refine ⟨⟨by omega, by omega⟩, fun q hq => ?_⟩
    have hq : fl[j]? = some q := by simpa using hq
    rw [drop_get hq] at hj2
    simp only [dupS] at hj2
    conv => whnf
    refine brI (fun h4 => ?_) (fun h4 => ?_)
    · conv => whnf
      rw [if_pos h4] at hj2
      exact ⟨leA_zero (hA.symm.trans <| al_3 h0 h1 hok hj2.symm), leH_nil⟩
    · conv => whnf
      rw [if_neg (by rw [h4]; simp)] at hj2
      refine ⟨(j + 1, mput .str q.s true es), ⟨by simp only; omega, hj2⟩, by show fl.length - (j + 1) < fl.length - j; omega, ?_⟩
      ((conv => whnf); refine And.intro ?_ ?_; repeat' first | refine leL_cons ?_ ?_ | exact leA_any | exact leA_refl rfl | exact leL_nil | refine leH_cons ?_ ?_ | exact leH_nil | exact leB_free | exact leB_dead | refine leB_cells ?_ | exact leB_map rfl | exact leB_gst rfl | exact leA_nil rfl | refine leA_agg ?_ | refine leA_tup ?_ | fail)
      exact leA_int (by rw [wI (by simp only; omega)]; simp only; omega)
  have h3 : ¬ j < fl.length := by simp only [decide_eq_false_iff_not] at h3; omega
  have hdup : dupS fl [] = false := by rw [← hj2, List.drop_of_length_le (by omega)]; rfl
  clear hj1 hj2 h3
  conv => whnf
  refine ⟨[], _, f74 0, ?_⟩
  conv => whnf
  refine ⟨Nat × Ex, fun x => x.1 ≤ fl.length ∧ sumD e (fl.drop x.1) (x.1 == 0) x.2 = sumD e fl true (numE 0) ∧ VT x.2, fun x => [(62, .int .i64 x.1)], fun x => [(11, .cells (exC x.2))], fun x => fl.length - x.1, (0, numE 0), ⟨by simp, rfl, VT_numE (by omega)⟩, ?_, fun x hx => ?_⟩
  · ((conv => whnf); refine And.intro ?_ ?_; repeat' first | refine leL_cons ?_ ?_ | exact leA_any | exact leA_refl rfl | exact leL_nil | refine leH_cons ?_ ?_ | exact leH_nil | exact leB_free | exact leB_dead | refine leB_cells ?_ | exact leB_map rfl | exact leB_gst rfl | exact leA_nil rfl | refine leA_agg ?_ | refine leA_tup ?_ | fail)
  (refine ⟨by kernel_rfl, ?_⟩; (conv => whnf))
  obtain ⟨k, s⟩ := x
  obtain ⟨hk1, hk2, hk3⟩ := hx
  simp only at hk1 hk2 hk3
  refine brI (fun h3 => ?_) (fun h3 => ?_)
  · conv => whnf
    have h3 : k < fl.length := by simp only [decide_eq_true_eq] at h3; omega
    refine ⟨⟨by omega, by omega⟩, fun q hq => ?_⟩
    have hq : fl[k]? = some q := by simpa using hq
    have hm := List.mem_of_getElem? hq
    have hqo := flOk_mem hok hm
    rw [drop_get hq] at hk2
    simp only [sumD] at hk2
    have h16 := f16 e q.s he (hfl q hm).2
    conv => whnf
    rcases dfE_two h1 hqo.2 with ⟨d, hd, hvd⟩ | hd
    · rw [hd] at h16 hk2
      simp only [if_true] at hk2
      refine ⟨[], _, h16, ?_⟩
      conv => whnf
      have hvq := VT_sim (okT_VT hqo.1)
      refine ⟨[], _, f64 (okT_VT hqo.1), ?_⟩
      conv => whnf
      refine ⟨[], _, f75 (k := 5) (a := d) (b := simE q.e) (by unfold K2; omega) hvq, ?_⟩
      conv => whnf
      (refine ⟨by kernel_rfl, by kernel_rfl, ?_⟩; (conv => whnf))
      have hvp : VT (op2 5 d (simE q.e)) := VT_op2 (by unfold K2; omega) hvd hvq
      refine brI (fun h4 => ?_) (fun h4 => ?_)
      · conv => whnf
        have h4 : k = 0 := by simp only [beq_iff_eq] at h4; omega
        refine ⟨(k + 1, op2 5 d (simE q.e)), ⟨by simp only; omega, by rw [h4] at hk2; simpa [h4] using hk2, hvp⟩, by show fl.length - (k + 1) < fl.length - k; omega, ?_⟩
        ((conv => whnf); refine And.intro ?_ ?_; repeat' first | refine leL_cons ?_ ?_ | exact leA_any | exact leA_refl rfl | exact leL_nil | refine leH_cons ?_ ?_ | exact leH_nil | exact leB_free | exact leB_dead | refine leB_cells ?_ | exact leB_map rfl | exact leB_gst rfl | exact leA_nil rfl | refine leA_agg ?_ | refine leA_tup ?_ | fail)
        exact leA_int (by rw [wI (by simp only; omega)]; simp only; omega)
      · conv => whnf
        have h4 : k ≠ 0 := by simp only [beq_eq_false_iff_ne, ne_eq] at h4; omega
        refine ⟨[], _, f75 (k := 3) (a := s) (b := op2 5 d (simE q.e)) (by unfold K2; omega) hvp, ?_⟩
        conv => whnf
        refine ⟨(k + 1, op2 3 s (op2 5 d (simE q.e))), ⟨by simp only; omega, by rw [show (k == 0) = false by simpa using h4] at hk2; simpa using hk2, VT_op2 (by unfold K2; omega) hk3 hvp⟩, by show fl.length - (k + 1) < fl.length - k; omega, ?_⟩
        ((conv => whnf); refine And.intro ?_ ?_; repeat' first | refine leL_cons ?_ ?_ | exact leA_any | exact leA_refl rfl | exact leL_nil | refine leH_cons ?_ ?_ | exact leH_nil | exact leB_free | exact leB_dead | refine leB_cells ?_ | exact leB_map rfl | exact leB_gst rfl | exact leA_nil rfl | refine leA_agg ?_ | refine leA_tup ?_ | fail)
        exact leA_int (by rw [wI (by simp only; omega)]; simp only; omega)
    · rw [hd] at h16 hk2
      refine ⟨[], _, h16, ?_⟩
      conv => whnf
      exact ⟨leA_zero (hA.symm.trans <| al_4 h0 h1 hok hdup (by rw [← hk2]; simp)), leH_nil⟩
  have h3 : ¬ k < fl.length := by simp only [decide_eq_false_iff_not] at h3; omega
  rw [List.drop_of_length_le (by omega)] at hk2
  simp only [sumD] at hk2
  conv => whnf
  refine cbI [] (okT s) (f17 s (VT_Sm hk3)) (fun h6 => ?_) (fun h6 => ?_)
  · conv => whnf
    exact ⟨leA_dfV (hA.symm.trans <| al_6 h0 h1 hok hdup hk2.symm h6), leH_nil⟩
  · conv => whnf
    exact ⟨leA_zero (hA.symm.trans <| al_5 h0 h1 hok hdup hk2.symm h6), leH_nil⟩
end Go.Proofs.Ytmcdnbmamoggoaa
