/-
  Polynomials: derive.polynomial, derive.Polynomial.
-/
import Derived.Test.YtmcdnbmamoggoaaQVb
import Derived.Test.YtmcdnbmamoggoaaQUI
import Derived.Test.YtmcdnbmamoggoaaQCk
set_option linter.unusedVariables false
set_option linter.unusedSimpArgs false
namespace Go.Proofs.Ytmcdnbmamoggoaa
open Go Go.Sx
set_option maxRecDepth 100000
set_option maxHeartbeats 8000000
abbrev PolOK (e : Ex) : Prop := Fn 69 [] [.agg (exC e)] (.bool (polE e)) []
theorem polL_drop {l : List Ex} {i : Nat} {x : Ex} (hx : l[i]? = some x) (h : polL (l.drop i) = polL l) : polL l = (polE x && polL (l.drop (i + 1))) := by
  rw [← h, drop_get hx]; rfl
theorem f69_plain (k : Int) (q : Rt) (s : Bytes) (n : Int) (l : List Ex) (h6 : k ≠ 6) (h9 : k < 9) (hl : ∀ x ∈ l, PolOK x) (hlen : l.length < 9223372036854775808) :
    Fn 69 [] [exV k q s n l] (.bool (polL l)) [] := by
  refine fnT hT hmx Try.func69 rfl rfl (ex := []) ?_
  conv => whnf
  refine brI (fun h => absurd (show k = 9 by simpa using h) (by omega)) (fun _ => ?_)
  conv => whnf
  refine brI (fun h => absurd (show k = 10 by simpa using h) (by omega)) (fun _ => ?_)
  conv => whnf
  refine brI (fun h => absurd (show k = 11 by simpa using h) (by omega)) (fun _ => ?_)
  conv => whnf
  refine brI (fun h => absurd (show k = 12 by simpa using h) (by omega)) (fun _ => ?_)
  conv => whnf
  refine brI (fun h => absurd (show k = 13 by simpa using h) (by omega)) (fun _ => ?_)
  conv => whnf
  refine brI (fun h => absurd (show k = 6 by simpa using h) h6) (fun _ => ?_)
  conv => whnf
  refine ⟨Nat, fun i => i ≤ l.length ∧ polL (l.drop i) = polL l, fun i => [(32, .int .i64 i)], fun _ => [], fun i => l.length - i, 0, ⟨by simp, rfl⟩, ?_, fun i hi => ?_⟩
  · ((conv => whnf); refine And.intro ?_ ?_; repeat' first | exact leL_nil | exact leH_nil | exact leA_any | exact leA_refl rfl | exact leA_nil rfl | refine leA_agg ?_ | refine leA_tup ?_ | exact leB_free | exact leB_dead | refine leL_cons ?_ ?_ | refine leH_cons ?_ ?_ | refine leB_cells ?_ | fail)
  · (refine ⟨by kernel_rfl, ?_⟩; (conv => whnf))
    obtain ⟨hi1, hi2⟩ := hi
    refine brI (fun h3 => ?_) (fun h3 => ?_)
    · conv => whnf
      have h3 : i < l.length := by simp only [decide_eq_true_eq] at h3; omega
      refine ⟨⟨by omega, by omega⟩, fun x hx => ?_⟩
      have hx : l[(i : Int).toNat]? = some x := hx
      have hx : l[i]? = some x := by simpa using hx
      conv => whnf
      have hp := polL_drop hx hi2
      refine cbI [] (polE x) (hl x (List.mem_of_getElem? hx)) (fun h4 => ?_) (fun h4 => ?_)
      · conv => whnf
        refine ⟨i + 1, ⟨by omega, by rw [hp, h4]; simp⟩, by show l.length - (i + 1) < l.length - i; omega, ?_⟩
        ((conv => whnf); refine And.intro ?_ ?_; repeat' first | exact leL_nil | exact leH_nil | exact leA_any | exact leA_refl rfl | exact leA_nil rfl | refine leA_agg ?_ | refine leA_tup ?_ | exact leB_free | exact leB_dead | refine leL_cons ?_ ?_ | refine leH_cons ?_ ?_ | refine leB_cells ?_ | fail)
        exact leA_int (by rw [wI (by omega)]; omega)
      · conv => whnf
        exact ⟨leA_bool (by rw [hp, h4]; simp), leH_nil⟩
    · conv => whnf
      have h3 : ¬ i < l.length := by simp only [decide_eq_false_iff_not] at h3; omega
      rw [List.drop_of_length_le (by omega)] at hi2
      exact ⟨leA_bool (by rw [← hi2]; rfl), leH_nil⟩
theorem f69_fun (k : Int) (q : Rt) (s : Bytes) (n : Int) (l : List Ex) (h9 : k = 9 ∨ k = 10 ∨ k = 11 ∨ k = 12 ∨ k = 13) : Fn 69 [] [exV k q s n l] (.bool false) [] := by
  rcases h9 with rfl | rfl | rfl | rfl | rfl <;> (refine fnT hT hmx Try.func69 rfl rfl (ex := []) ?_; (conv => whnf); exact ⟨leA_refl rfl, leH_nil⟩)
theorem f69_div (q : Rt) (s : Bytes) (n : Int) (a b : Ex) (ha : PolOK a) (hb : PolOK b) : Fn 69 [] [exV 6 q s n [a, b]] (.bool ((b.k == 1) && (b.q.n != 0) && (polE a && polE b))) [] := by
  refine fnT hT hmx Try.func69 rfl rfl (ex := []) ?_
  conv => whnf
  refine ix1 ?_
  conv => whnf
  have hloop : ∀ i : Nat, i ≤ 2 → (i = 0 ∨ (i = 1 ∧ polE a = true) ∨ (i = 2 ∧ polE a = true ∧ polE b = true)) → True := fun _ _ _ => trivial
  refine brI (fun h1 => ?_) (fun h1 => ?_)
  · conv => whnf
    have h1 : b.k ≠ 1 := by simpa using h1
    exact ⟨leA_bool (by simp [h1]), leH_nil⟩
  · conv => whnf
    have h1 : b.k = 1 := by simpa using h1
    refine brI (fun h2 => ?_) (fun h2 => ?_)
    · conv => whnf
      have h2 : b.q.n = 0 := by simpa using h2
      exact ⟨leA_bool (by simp [h2]), leH_nil⟩
    · conv => whnf
      have h2 : b.q.n ≠ 0 := by simpa using h2
      refine ⟨Nat, fun i => i ≤ 2 ∧ polL ([a, b].drop i) = (polE a && polE b), fun i => [(32, .int .i64 i)], fun _ => [], fun i => 2 - i, 0, ⟨by omega, by simp [polL]⟩, ?_, fun i hi => ?_⟩
      · ((conv => whnf); refine And.intro ?_ ?_; repeat' first | exact leL_nil | exact leH_nil | exact leA_any | exact leA_refl rfl | exact leA_nil rfl | refine leA_agg ?_ | refine leA_tup ?_ | exact leB_free | exact leB_dead | refine leL_cons ?_ ?_ | refine leH_cons ?_ ?_ | refine leB_cells ?_ | fail)
      · (refine ⟨by kernel_rfl, ?_⟩; (conv => whnf))
        obtain ⟨hi1, hi2⟩ := hi
        refine brI (fun h3 => ?_) (fun h3 => ?_)
        · conv => whnf
          have h3 : decide ((i : Int) < (([a, b] : List Ex).length : Int)) = true := h3
          have h3 : i < 2 := by simp only [decide_eq_true_eq, List.length_cons, List.length_nil] at h3; omega
          refine ⟨⟨by omega, by simp only [List.length_cons, List.length_nil]; omega⟩, fun x hx => ?_⟩
          have hx : ([a, b] : List Ex)[(i : Int).toNat]? = some x := hx
          have hx : ([a, b] : List Ex)[i]? = some x := by rw [Int.toNat_natCast] at hx; exact hx
          have hm : x ∈ [a, b] := List.mem_of_getElem? hx
          have hpx : PolOK x := by
            simp only [List.mem_cons, List.not_mem_nil, or_false] at hm
            rcases hm with rfl | rfl
            · exact ha
            · exact hb
          conv => whnf
          have hp : (polE a && polE b) = (polE x && polL ([a, b].drop (i + 1))) := by rw [← hi2, drop_get hx]; rfl
          refine cbI [] (polE x) hpx (fun h4 => ?_) (fun h4 => ?_)
          · conv => whnf
            refine ⟨i + 1, ⟨by omega, by rw [hp, h4]; simp⟩, by show 2 - (i + 1) < 2 - i; omega, ?_⟩
            ((conv => whnf); refine And.intro ?_ ?_; repeat' first | exact leL_nil | exact leH_nil | exact leA_any | exact leA_refl rfl | exact leA_nil rfl | refine leA_agg ?_ | refine leA_tup ?_ | exact leB_free | exact leB_dead | refine leL_cons ?_ ?_ | refine leH_cons ?_ ?_ | refine leB_cells ?_ | fail)
            exact leA_int (by rw [wI (by omega)]; omega)
          · conv => whnf
            exact ⟨leA_bool (by rw [hp, h4]; simp), leH_nil⟩
        · conv => whnf
          have h3 : decide ((i : Int) < (([a, b] : List Ex).length : Int)) = false := h3
          have h3 : ¬ i < 2 := by simp only [decide_eq_false_iff_not, List.length_cons, List.length_nil] at h3; omega
          rw [List.drop_of_length_le (by simp; omega)] at hi2
          exact ⟨leA_bool (by rw [← hi2]; simp [h1, h2, polL]), leH_nil⟩
theorem f69 {e : Ex} (h : VT e) : PolOK e := by
  induction h with
  | num r hr =>
    unfold PolOK; rw [pol_rat]
    exact f69_plain 1 r [] 0 [] (by omega) (by omega) (by simp) (by simp)
  | var s hs =>
    unfold PolOK; rw [pol_var]
    exact f69_plain 2 ⟨0, 0⟩ s 0 [] (by omega) (by omega) (by simp) (by simp)
  | un k a hk ha ih =>
    unfold PolOK
    by_cases h7 : k = 7
    · subst h7
      rw [pol_one (.inl rfl), show polE a = polL [a] by simp [polL]]
      exact f69_plain 7 ⟨0, 0⟩ [] 0 [a] (by omega) (by omega) (by simpa using ih) (by simp)
    · rw [pol_fun (by unfold K1 at hk; omega)]
      exact f69_fun k ⟨0, 0⟩ [] 0 [a] (by unfold K1 at hk; omega)
  | pow n a h1 h2 ha ih =>
    unfold PolOK
    rw [pol_one (.inr rfl), show polE a = polL [a] by simp [polL]]
    exact f69_plain 8 ⟨0, 0⟩ [] n [a] (by omega) (by omega) (by simpa using ih) (by simp)
  | bin k a b hk ha hb ih1 ih2 =>
    unfold PolOK
    by_cases h6 : k = 6
    · subst h6
      rw [pol_div]
      exact f69_div ⟨0, 0⟩ [] 0 a b ih1 ih2
    · have h3 : k = 3 ∨ k = 4 ∨ k = 5 := by unfold K2 at hk; omega
      rw [pol_two h3, show (polE a && polE b) = polL [a, b] by simp [polL]]
      exact f69_plain k ⟨0, 0⟩ [] 0 [a, b] h6 (by omega) (by simpa using ⟨ih1, ih2⟩) (by simp)
/-- Polynomial. -/
def poB (e : Ex) : Bool := okT e && polE e
theorem f22 (e : Ex) (he : Sm e) : Fn 22 [] [.agg (exC e)] (.bool (poB e)) [] := by
  refine fnT hT hmx Try.func22 rfl rfl (ex := []) ?_
  conv => whnf
  refine cbI [] (okT e) (f17 e he) (fun h1 => ?_) (fun h1 => ?_)
  · conv => whnf
    refine ⟨[], _, f69 (okT_VT h1), ?_⟩
    conv => whnf
    exact ⟨leA_bool (by simp [poB, h1]), leH_nil⟩
  · conv => whnf
    exact ⟨leA_bool (by simp [poB, h1]), leH_nil⟩
end Go.Proofs.Ytmcdnbmamoggoaa
