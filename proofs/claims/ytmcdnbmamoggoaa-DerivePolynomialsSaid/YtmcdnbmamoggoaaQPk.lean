/-
  The reference: Polynomial.
-/
import Derived.Test.YtmcdnbmamoggoaaQUJ
import Derived.Test.YtmcdnbmamoggoaaQSxY
import Derived.Test.YtmcdnbmamoggoaaQV6
set_option linter.unusedVariables false
set_option linter.unusedSimpArgs false
namespace Go.Proofs.Ytmcdnbmamoggoaa
open Go Go.Sx
set_option maxRecDepth 100000
set_option maxHeartbeats 8000000
abbrev PolROK (e : Ex) : Prop := Fn 23 [] [.agg (exC e)] (.bool (polE e)) []
theorem f23_plain (k : Int) (q : Rt) (s : Bytes) (n : Int) (l : List Ex) (hk : k = 1 ∨ k = 2 ∨ k = 3 ∨ k = 4 ∨ k = 5 ∨ k = 7 ∨ k = 8) (hl : ∀ x ∈ l, PolROK x) (hlen : l.length < 9223372036854775808) :
    Fn 23 [] [exV k q s n l] (.bool (polL l)) [] := by
  rcases hk with rfl | rfl | rfl | rfl | rfl | rfl | rfl <;>
  (refine fnS hT hmx Try.func23 rfl rfl (ex := []) ?_
   (conv => whnf)
   refine ⟨Nat, fun i => i ≤ l.length ∧ polL (l.drop i) = polL l, fun i => [(3, .int .i64 i)], fun _ => [], fun i => l.length - i, 0, ⟨by simp, rfl⟩, ?_, fun i hi => ?_⟩
   · ((conv => whnf); refine And.intro ?_ ?_; repeat' first | refine leL_cons ?_ ?_ | exact leA_any | exact leA_refl rfl | exact leL_nil | refine leH_cons ?_ ?_ | exact leH_nil | exact leB_free | exact leB_dead | refine leB_cells ?_ | exact leB_map rfl | exact leA_nil rfl | refine leA_agg ?_ | refine leA_tup ?_ | fail)
   · (refine ⟨by kernel_rfl, ?_⟩; (conv => whnf))
     obtain ⟨hi1, hi2⟩ := hi
     refine brI (fun h3 => ?_) (fun h3 => ?_)
     · (conv => whnf)
       have h3 : i < l.length := by simp only [decide_eq_true_eq] at h3; omega
       refine ⟨⟨by omega, by omega⟩, fun x hx => ?_⟩
       have hx : l[(i : Int).toNat]? = some x := hx
       have hx : l[i]? = some x := by simpa using hx
       (conv => whnf)
       have hp := polL_drop hx hi2
       refine cbI [] (polE x) (hl x (List.mem_of_getElem? hx)) (fun h4 => ?_) (fun h4 => ?_)
       · (conv => whnf)
         refine ⟨i + 1, ⟨by omega, by rw [hp, h4]; simp⟩, by show l.length - (i + 1) < l.length - i; omega, ?_⟩
         ((conv => whnf); refine And.intro ?_ ?_; repeat' first | refine leL_cons ?_ ?_ | exact leA_any | exact leA_refl rfl | exact leL_nil | refine leH_cons ?_ ?_ | exact leH_nil | exact leB_free | exact leB_dead | refine leB_cells ?_ | exact leB_map rfl | exact leA_nil rfl | refine leA_agg ?_ | refine leA_tup ?_ | fail)
         exact leA_int (by rw [wI (by omega)]; omega)
       · (conv => whnf)
         exact ⟨leA_bool (by rw [hp, h4]; simp), leH_nil⟩
     · (conv => whnf)
       have h3 : ¬ i < l.length := by simp only [decide_eq_false_iff_not] at h3; omega
       rw [List.drop_of_length_le (by omega)] at hi2
       exact ⟨leA_bool (by rw [← hi2]; rfl), leH_nil⟩)
theorem f23_fun (k : Int) (q : Rt) (s : Bytes) (n : Int) (l : List Ex) (h9 : k = 9 ∨ k = 10 ∨ k = 11 ∨ k = 12 ∨ k = 13) : Fn 23 [] [exV k q s n l] (.bool false) [] := by
  rcases h9 with rfl | rfl | rfl | rfl | rfl <;> (refine fnS hT hmx Try.func23 rfl rfl (ex := []) ?_; (conv => whnf); exact ⟨leA_refl rfl, leH_nil⟩)
theorem f23_div (q : Rt) (s : Bytes) (n : Int) (a b : Ex) (ha : PolROK a) (hb : PolROK b) : Fn 23 [] [exV 6 q s n [a, b]] (.bool ((b.k == 1) && (b.q.n != 0) && (polE a && polE b))) [] := by
  refine fnS hT hmx Try.func23 rfl rfl (ex := []) ?_
  conv => whnf
  refine ix1 ?_
  conv => whnf
  refine brI (fun h1 => ?_) (fun h1 => ?_)
  · conv => whnf
    have h1 : b.k ≠ 1 := by simpa using h1
    exact ⟨leA_bool (by simp [h1]), leH_nil⟩
  · conv => whnf
    have h1 : b.k = 1 := by simpa using h1
    refine ix1 ?_
    conv => whnf
    refine brI (fun h2 => ?_) (fun h2 => ?_)
    · conv => whnf
      have h2 : b.q.n = 0 := by simpa using h2
      exact ⟨leA_bool (by simp [h2]), leH_nil⟩
    · conv => whnf
      have h2 : b.q.n ≠ 0 := by simpa using h2
      refine ⟨Nat, fun i => i ≤ 2 ∧ polL ([a, b].drop i) = (polE a && polE b), fun i => [(3, .int .i64 i)], fun _ => [], fun i => 2 - i, 0, ⟨by omega, by simp [polL]⟩, ?_, fun i hi => ?_⟩
      · ((conv => whnf); refine And.intro ?_ ?_; repeat' first | refine leL_cons ?_ ?_ | exact leA_any | exact leA_refl rfl | exact leL_nil | refine leH_cons ?_ ?_ | exact leH_nil | exact leB_free | exact leB_dead | refine leB_cells ?_ | exact leB_map rfl | exact leA_nil rfl | refine leA_agg ?_ | refine leA_tup ?_ | fail)
      · (refine ⟨by kernel_rfl, ?_⟩; (conv => whnf))
        obtain ⟨hi1, hi2⟩ := hi
        refine brI (fun h3 => ?_) (fun h3 => ?_)
        · conv => whnf
          have h3 : decide ((i : Int) < (([a, b] : List Ex).length : Int)) = true := h3
          have h3 : i < 2 := by simp only [decide_eq_true_eq, List.length_cons, List.length_nil] at h3; omega
          refine ⟨⟨by omega, by simp only [List.length_cons, List.length_nil]; omega⟩, fun x hx => ?_⟩
          have hx : ([a, b] : List Ex)[(i : Int).toNat]? = some x := hx
          have hx : ([a, b] : List Ex)[i]? = some x := by rw [Int.toNat_natCast] at hx; exact hx
          have hm : x ∈ [a, b] := List.mem_of_getElem? hx
          have hpx : PolROK x := by
            simp only [List.mem_cons, List.not_mem_nil, or_false] at hm
            rcases hm with rfl | rfl
            · exact ha
            · exact hb
          conv => whnf
          have hp : (polE a && polE b) = (polE x && polL ([a, b].drop (i + 1))) := by rw [← hi2, drop_get hx]; rfl
          refine cbI [] (polE x) hpx (fun h4 => ?_) (fun h4 => ?_)
          · conv => whnf
            refine ⟨i + 1, ⟨by omega, by rw [hp, h4]; simp⟩, by show 2 - (i + 1) < 2 - i; omega, ?_⟩
            ((conv => whnf); refine And.intro ?_ ?_; repeat' first | refine leL_cons ?_ ?_ | exact leA_any | exact leA_refl rfl | exact leL_nil | refine leH_cons ?_ ?_ | exact leH_nil | exact leB_free | exact leB_dead | refine leB_cells ?_ | exact leB_map rfl | exact leA_nil rfl | refine leA_agg ?_ | refine leA_tup ?_ | fail)
            exact leA_int (by rw [wI (by omega)]; omega)
          · conv => whnf
            exact ⟨leA_bool (by rw [hp, h4]; simp), leH_nil⟩
        · conv => whnf
          have h3 : decide ((i : Int) < (([a, b] : List Ex).length : Int)) = false := h3
          have h3 : ¬ i < 2 := by simp only [decide_eq_false_iff_not, List.length_cons, List.length_nil] at h3; omega
          rw [List.drop_of_length_le (by simp; omega)] at hi2
          exact ⟨leA_bool (by rw [← hi2]; simp [h1, h2, polL]), leH_nil⟩
theorem f23 {e : Ex} (h : VT e) : PolROK e := by
  induction h with
  | num r hr =>
    unfold PolROK; rw [pol_rat]
    exact f23_plain 1 r [] 0 [] (by omega) (by simp) (by simp)
  | var s hs =>
    unfold PolROK; rw [pol_var]
    exact f23_plain 2 ⟨0, 0⟩ s 0 [] (by omega) (by simp) (by simp)
  | un k a hk ha ih =>
    unfold PolROK
    by_cases h7 : k = 7
    · subst h7
      rw [pol_one (.inl rfl), show polE a = polL [a] by simp [polL]]
      exact f23_plain 7 ⟨0, 0⟩ [] 0 [a] (by omega) (by simpa using ih) (by simp)
    · rw [pol_fun (by unfold K1 at hk; omega)]
      exact f23_fun k ⟨0, 0⟩ [] 0 [a] (by unfold K1 at hk; omega)
  | pow n a h1 h2 ha ih =>
    unfold PolROK
    rw [pol_one (.inr rfl), show polE a = polL [a] by simp [polL]]
    exact f23_plain 8 ⟨0, 0⟩ [] n [a] (by omega) (by simpa using ih) (by simp)
  | bin k a b hk ha hb ih1 ih2 =>
    unfold PolROK
    by_cases h6 : k = 6
    · subst h6
      rw [pol_div]
      exact f23_div ⟨0, 0⟩ [] 0 a b ih1 ih2
    · have h3 : k = 3 ∨ k = 4 ∨ k = 5 := by unfold K2 at hk; omega
      rw [pol_two h3, show (polE a && polE b) = polL [a, b] by simp [polL]]
      exact f23_plain k ⟨0, 0⟩ [] 0 [a, b] (by omega) (by simpa using ⟨ih1, ih2⟩) (by simp)
end Go.Proofs.Ytmcdnbmamoggoaa

/-
  The reference: Degree.
-/
namespace Go.Proofs.Ytmcdnbmamoggoaa
open Go Go.Sx
set_option maxRecDepth 100000
set_option maxHeartbeats 8000000
/-- A degree as the reference tells it. -/
def dgI (o : Option Nat) : Int := match o with
  | some n => n
  | none => -1
abbrev DegROK (nm : Bytes) (e : Ex) : Prop := Fn 24 [] [.agg (exC e), .str nm] (.int .i64 (dgI (degE nm e))) []
theorem dgI_hi {m : Nat} (h : 1000 < m) : dgI (cap m) = -1 := by unfold cap; rw [if_neg (by omega)]; rfl
theorem dgI_lo {m : Nat} (h : m ≤ 1000) : dgI (cap m) = m := by unfold cap; rw [if_pos h]; rfl
theorem f24_num (nm : Bytes) (r : Rt) : DegROK nm (ratE r) := by
  unfold DegROK
  rw [deg_rat]
  refine fnS hT hmx Try.func24 rfl rfl (ex := []) ?_
  conv => whnf
  exact ⟨leA_refl rfl, leH_nil⟩
theorem f24_var (nm s : Bytes) : DegROK nm (varE s) := by
  unfold DegROK
  rw [deg_var]
  refine fnS hT hmx Try.func24 rfl rfl (ex := []) ?_
  conv => whnf
  refine brI (fun h => ?_) (fun h => ?_)
  · have h : (s == nm) = true := h
    rw [if_pos (by simpa using h)]
    conv => whnf
    exact ⟨leA_refl rfl, leH_nil⟩
  · have h : (s == nm) = false := h
    rw [if_neg (by simpa using h)]
    conv => whnf
    exact ⟨leA_refl rfl, leH_nil⟩
theorem f24_neg (nm : Bytes) (a : Ex) (hb : ∀ i, degE nm a = some i → i ≤ 1000) (ih : DegROK nm a) : DegROK nm (opE 7 0 [a]) := by
  unfold DegROK at ih ⊢
  rw [deg_one nm (by omega)]
  cases ha : degE nm a with
  | none =>
    rw [ha] at ih
    refine fnS hT hmx Try.func24 rfl rfl (ex := []) ?_
    conv => whnf
    refine ix0 ?_
    conv => whnf
    refine ⟨[], .int .i64 (-1), ih, ?_⟩
    conv => whnf
    exact ⟨leA_refl rfl, leH_nil⟩
  | some i =>
    rw [ha] at ih
    have hi := hb i ha
    refine fnS hT hmx Try.func24 rfl rfl (ex := []) ?_
    conv => whnf
    refine ix0 ?_
    conv => whnf
    refine ⟨[], .int .i64 (i : Int), ih, ?_⟩
    conv => whnf
    have e1 : (if (0 : Int) > (i : Int) then (0 : Int) else (i : Int)) = i := if_neg (by omega)
    have e2 : dgI (degO 7 0 [some i]) = i := by show dgI (cap (deg1 7 0 i)) = _; rw [dgI_lo (by simp [deg1]; omega)]; simp [deg1]
    rw [e1, e2]
    refine brI (fun h => absurd (show (i : Int) > 1000 from of_decide_eq_true h) (by omega)) (fun _ => ?_)
    conv => whnf
    exact ⟨leA_refl rfl, leH_nil⟩
theorem f24_pow (nm : Bytes) (n : Int) (a : Ex) (h0 : 0 ≤ n) (h16 : n ≤ 16) (hb : ∀ i, degE nm a = some i → i ≤ 1000) (ih : DegROK nm a) : DegROK nm (opE 8 n [a]) := by
  unfold DegROK at ih ⊢
  rw [deg_one nm (by omega)]
  cases ha : degE nm a with
  | none =>
    rw [ha] at ih
    refine fnS hT hmx Try.func24 rfl rfl (ex := []) ?_
    conv => whnf
    refine ix0 ?_
    conv => whnf
    refine ⟨[], .int .i64 (-1), ih, ?_⟩
    conv => whnf
    exact ⟨leA_refl rfl, leH_nil⟩
  | some i =>
    rw [ha] at ih
    have hi := hb i ha
    have e2 : i * n.toNat ≤ 1000 * 16 := Nat.mul_le_mul hi (by omega)
    have e3 : IntKind.i64.wrap ((i : Int) * n) = ((i * n.toNat : Nat) : Int) := by
      have : (i : Int) * n = ((i * n.toNat : Nat) : Int) := by rw [Int.natCast_mul, Int.toNat_of_nonneg h0]
      rw [this, wI (by omega)]
    have e4 : dgI (degO 8 n [some i]) = dgI (cap (i * n.toNat)) := by show dgI (cap (deg1 8 n i)) = _; simp [deg1]
    rw [e4]
    refine fnS hT hmx Try.func24 rfl rfl (ex := []) ?_
    conv => whnf
    refine ix0 ?_
    conv => whnf
    refine ⟨[], .int .i64 (i : Int), ih, ?_⟩
    conv => whnf
    rw [show IntKind.i64.wrap ((i : Int) * (opE 8 n [a]).p) = ((i * n.toNat : Nat) : Int) from e3]
    refine brI (fun h => ?_) (fun h => ?_)
    · conv => whnf
      rw [dgI_hi (by have := of_decide_eq_true h; omega)]
      exact ⟨leA_refl rfl, leH_nil⟩
    · conv => whnf
      rw [dgI_lo (by have := of_decide_eq_false h; omega)]
      exact ⟨leA_refl rfl, leH_nil⟩
theorem f24_two (nm : Bytes) (k : Int) (a b : Ex) (hk : K2 k) (hb : ∀ i, degE nm a = some i → i ≤ 1000) (hb2 : ∀ i, degE nm b = some i → i ≤ 1000) (ih : DegROK nm a) (ih2 : DegROK nm b) : DegROK nm (opE k 0 [a, b]) := by
  unfold DegROK at ih ih2 ⊢
  rw [deg_two nm (K2_ne hk)]
  cases ha : degE nm a with
  | none =>
    rw [ha] at ih
    have ih2' : Fn 24 [] [.agg (exC b), .str nm] (.int .i64 (dgI (degE nm b))) [] := ih2
    rcases hk with rfl | rfl | rfl | rfl <;>
    (refine fnS hT hmx Try.func24 rfl rfl (ex := []) ?_
     (conv => whnf)
     refine ix0 ?_
     (conv => whnf)
     refine ⟨[], .int .i64 (-1), ih, ?_⟩
     (conv => whnf)
     refine ix1 ?_
     (conv => whnf)
     refine ⟨[], _, ih2', ?_⟩
     (conv => whnf)
     exact ⟨leA_refl rfl, leH_nil⟩)
  | some i =>
    rw [ha] at ih
    have hi := hb i ha
    cases hc : degE nm b with
    | none =>
      rw [hc] at ih2
      rcases hk with rfl | rfl | rfl | rfl <;>
      (refine fnS hT hmx Try.func24 rfl rfl (ex := []) ?_
       (conv => whnf)
       refine ix0 ?_
       (conv => whnf)
       refine ⟨[], .int .i64 (i : Int), ih, ?_⟩
       (conv => whnf)
       refine ix1 ?_
       (conv => whnf)
       refine ⟨[], .int .i64 (-1), ih2, ?_⟩
       (conv => whnf)
       exact ⟨leA_refl rfl, leH_nil⟩)
    | some j =>
      rw [hc] at ih2
      have hj := hb2 j hc
      have e5 : IntKind.i64.wrap ((i : Int) + (j : Int)) = ((deg2 5 i j : Nat) : Int) := by rw [wI (by omega)]; simp [deg2]
      have e3 : ∀ k : Int, k = 3 ∨ k = 4 → (if (j : Int) > (i : Int) then (j : Int) else (i : Int)) = ((deg2 k i j : Nat) : Int) := fun k hk => by
        have : deg2 k i j = max i j := by unfold deg2; rw [if_neg (by omega), if_neg (by omega)]
        rw [this]; split <;> omega
      have e6 : (i : Int) = ((deg2 6 i j : Nat) : Int) := by simp [deg2]
      have e43 : deg2 4 i j = deg2 3 i j := by simp [deg2]
      rcases hk with rfl | rfl | rfl | rfl <;>
      (refine fnS hT hmx Try.func24 rfl rfl (ex := []) ?_
       (conv => whnf)
       refine ix0 ?_
       (conv => whnf)
       refine ⟨[], .int .i64 (i : Int), ih, ?_⟩
       (conv => whnf)
       refine ix1 ?_
       (conv => whnf)
       refine ⟨[], .int .i64 (j : Int), ih2, ?_⟩
       (conv => whnf)
       first
         | rw [e5]
         | rw [e3 3 (.inl rfl)]
         | rw [e3 4 (.inr rfl)]
         | rw [e6]
       refine brI (fun h => ?_) (fun h => ?_)
       · (conv => whnf)
         refine ⟨leA_int ?_, leH_nil⟩
         exact (dgI_hi (by have := of_decide_eq_true h; omega)).symm
       · (conv => whnf)
         refine ⟨leA_int ?_, leH_nil⟩
         exact (dgI_lo (by have := of_decide_eq_false h; omega)).symm)
theorem f24 (nm : Bytes) {e : Ex} (h : VT e) : polE e = true → DegROK nm e := by
  induction h with
  | num r hr => exact fun _ => f24_num nm r
  | var s hs => exact fun _ => f24_var nm s
  | un k a hk ha ih =>
    intro hp
    obtain rfl := pol_un hk hp
    exact f24_neg nm a (fun i h => deg_le nm ha h) (ih (by rwa [pol_one (.inl rfl)] at hp))
  | pow n a h1 h2 ha ih => exact fun hp => f24_pow nm n a h1 h2 (fun i h => deg_le nm ha h) (ih (by rwa [pol_one (.inr rfl)] at hp))
  | bin k a b hk ha hb ih1 ih2 =>
    intro hp
    obtain ⟨hpa, hpb, _⟩ := pol_bin hk hp
    exact f24_two nm k a b hk (fun i h => deg_le nm ha h) (fun i h => deg_le nm hb h) (ih1 hpa) (ih2 hpb)
end Go.Proofs.Ytmcdnbmamoggoaa
