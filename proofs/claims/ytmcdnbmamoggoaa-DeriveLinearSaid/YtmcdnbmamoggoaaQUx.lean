/-
  Linear rules: the derivative of a sum, a difference and a product of simple expressions that are no numbers.
-/
import Derived.Test.YtmcdnbmamoggoaaQVb
import Derived.Test.YtmcdnbmamoggoaaQUG
import Derived.Test.YtmcdnbmamoggoaaQUW
set_option linter.unusedVariables false
set_option linter.unusedSimpArgs false
namespace Go.Proofs.Ytmcdnbmamoggoaa
open Go Go.Sx
theorem op2_plain {k : Int} {a b : Ex} (hk : k = 3 ∨ k = 4 ∨ k = 5) (ha : a.k ≠ 1) (hb : b.k ≠ 1) : op2 k a b = opE k 0 [a, b] := by
  have h0 : foldN k 0 [a, b] = none := by simp [foldN, ha]
  have h1 : ∀ n, isB a n = false := fun n => by simp [isB, ha]
  have h2 : ∀ n, isB b n = false := fun n => by simp [isB, hb]
  unfold op2
  rw [h0]
  rcases hk with rfl | rfl | rfl <;> simp [sim2, h1, h2]
/-- What a pair of the statement's table must fulfil. -/
def LinP (n : Bytes) (p : Ex × Ex) : Prop := VT p.1 ∧ VT p.2 ∧ diffE n (simE p.1) = simE p.2
theorem lin_sum {n : Bytes} {a b : Ex} {k : Int} (hk : k = 3 ∨ k = 4) (ha : SP a) (hb : SP b) (h1 : a.k ≠ 1) (h2 : b.k ≠ 1) : LinP n (opE k 0 [a, b], opE k 0 [diffE n a, diffE n b]) := by
  have hk2 : K2 k := by unfold K2; omega
  refine ⟨VT.bin k a b hk2 (SP_VT ha) (SP_VT hb), VT.bin k _ _ hk2 (SP_VT (SP_diff n ha)) (SP_VT (SP_diff n hb)), ?_⟩
  show diffE n (simE (opE k 0 [a, b])) = simE (opE k 0 [diffE n a, diffE n b])
  rw [sim_two a b (K2_ne hk2), sim_SP ha, sim_SP hb, op2_plain (by omega) h1 h2, diff_two n a b (K2_ne hk2), sim_two _ _ (K2_ne hk2), sim_SP (SP_diff n ha), sim_SP (SP_diff n hb)]
  rcases hk with rfl | rfl <;> rfl
theorem lin_mul {n : Bytes} {a b : Ex} (ha : SP a) (hb : SP b) (h1 : a.k ≠ 1) (h2 : b.k ≠ 1) : LinP n (opE 5 0 [a, b], opE 3 0 [opE 5 0 [diffE n a, b], opE 5 0 [a, diffE n b]]) := by
  have k5 : K2 5 := by unfold K2; omega
  have k3 : K2 3 := by unfold K2; omega
  refine ⟨VT.bin 5 a b k5 (SP_VT ha) (SP_VT hb), VT.bin 3 _ _ k3 (VT.bin 5 _ _ k5 (SP_VT (SP_diff n ha)) (SP_VT hb)) (VT.bin 5 _ _ k5 (SP_VT ha) (SP_VT (SP_diff n hb))), ?_⟩
  show diffE n (simE (opE 5 0 [a, b])) = simE (opE 3 0 [opE 5 0 [diffE n a, b], opE 5 0 [a, diffE n b]])
  rw [sim_two a b (K2_ne k5), sim_SP ha, sim_SP hb, op2_plain (by omega) h1 h2, diff_two n a b (K2_ne k5), sim_two _ _ (K2_ne k3), sim_two _ _ (K2_ne k5), sim_two _ _ (K2_ne k5), sim_SP (SP_diff n ha), sim_SP (SP_diff n hb), sim_SP ha, sim_SP hb]
  rfl
/-- What Diff gives for such an expression. -/
theorem lin_use {n : Bytes} {p : Ex × Ex} (h : LinP n p) (h0 : (dfE p.1 n).2 = 0) (h1 : okT p.2 = true) : (dfE p.1 n).1 = simE p.2 ∧ VT (simE p.2) := by
  refine ⟨?_, VT_sim h.2.1⟩
  rw [← h.2.2]
  cases h2 : okT p.1 with
  | false => rw [dfE_no1 h2] at h0; simp at h0
  | true =>
    cases h3 : nameB n with
    | false => rw [dfE_no2 h3] at h0; simp at h0
    | true =>
      cases h4 : okT (diffE n (simE p.1)) with
      | false => rw [dfE_no3 h2 h3 h4] at h0; simp at h0
      | true => rw [dfE_yes h2 h3 h4]
end Go.Proofs.Ytmcdnbmamoggoaa

/-
  The law DeriveLinear: small trees, the table.
-/
namespace Go.Proofs.Ytmcdnbmamoggoaa
open Go Go.Sx
set_option maxRecDepth 100000
set_option maxHeartbeats 8000000
def smB (e : Ex) : Bool := !larE e 0 && (okT e && decide (szN e ≤ 60))
theorem smB_ok {e : Ex} (h : smB e = true) : okT e = true := by
  unfold smB at h
  simp only [Bool.and_eq_true] at h
  exact h.2.1
theorem f29 (k : Int) (a b : Ex) : Fn 29 [] [.int .i64 k, .agg (exC a), .agg (exC b)] (.agg (exC (opE k 0 [a, b]))) [] := by
  refine fnS hT hmx Try.func29 rfl rfl (ex := []) ?_
  conv => whnf
  rw [Ex.eta2, Ex.eta2]
  (refine And.intro ?_ ?_; repeat' first | exact leL_nil | exact leH_nil | exact leA_any | exact leA_refl rfl | exact leA_nil rfl | refine leA_agg ?_ | refine leA_tup ?_ | exact leB_free | exact leB_dead | refine leL_cons ?_ ?_ | refine leH_cons ?_ ?_ | refine leB_cells ?_ | fail)
/-- The law's table, with what each of its pairs fulfils. -/
theorem lin_tab {n : Bytes} {a b : Ex} (ha : SP a) (hb : SP b) (h1 : a.k ≠ 1) (h2 : b.k ≠ 1) (x y : Ex) (hx : x = diffE n a) (hy : y = diffE n b) :
    ∀ p ∈ [(opE 3 0 [a, b], opE 3 0 [x, y]), (opE 4 0 [a, b], opE 4 0 [x, y]), (opE 5 0 [a, b], opE 3 0 [opE 5 0 [x, b], opE 5 0 [a, y]])], LinP n p := by
  subst hx; subst hy
  intro p hp
  simp only [List.mem_cons, List.not_mem_nil, or_false] at hp
  rcases hp with rfl | rfl | rfl
  · exact lin_sum (.inl rfl) ha hb h1 h2
  · exact lin_sum (.inr rfl) ha hb h1 h2
  · exact lin_mul ha hb h1 h2
end Go.Proofs.Ytmcdnbmamoggoaa
