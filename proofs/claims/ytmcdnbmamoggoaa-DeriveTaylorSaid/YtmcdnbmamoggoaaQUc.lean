/-
  Simple forms: operations with two operands.
-/
import Derived.Test.YtmcdnbmamoggoaaQUB
set_option linter.unusedVariables false
set_option linter.unusedSimpArgs false
namespace Go.Proofs.Ytmcdnbmamoggoaa
open Go Go.Sx
set_option maxRecDepth 100000
set_option maxHeartbeats 8000000
theorem f115_7 (a : Ex) (ha : a.k = 7 → a.l ≠ []) : Fn 115 [] [.int .i64 7, .agg (exC a)] (.agg (exC (op1 7 0 a))) [] := by
  refine fnT hT hmx Try.func115 rfl rfl (ex := []) ?_
  conv => whnf
  rw [Ex.eta2]
  refine ⟨[], _, f117_7 0 a (by omega) ha, ?_⟩
  conv => whnf
  exact ⟨leA_ex rfl, leH_nil⟩
theorem negS_op (b : Ex) : negS b = op1 7 0 b := by
  unfold negS op1 sim1; simp
end Go.Proofs.Ytmcdnbmamoggoaa

/-
  Simple forms: operations with two operands, of the kind 3.
-/
namespace Go.Proofs.Ytmcdnbmamoggoaa
open Go Go.Sx
set_option maxRecDepth 100000
set_option maxHeartbeats 8000000
theorem f117_3 (a b : Ex) : Fn 117 [] [exV 3 ⟨0, 0⟩ [] 0 [a, b]] (.agg (exC (op2 3 a b))) [] := by
  have h145 := f145 3 0 ⟨0, 0⟩ [] [a, b] (by omega) (by simp) (by simp) (by simp)
  cases hf : foldN 3 0 [a, b] with
  | some r =>
    rw [hf] at h145
    simp only [op2, hf]
    refine fnT hT hmx Try.func117 rfl rfl (ex := []) ?_
    conv => whnf
    refine ⟨[], _, h145, ?_⟩
    conv => whnf
    (refine And.intro ?_ ?_; repeat' first | exact leL_nil | exact leH_nil | exact leA_any | exact leA_refl rfl | exact leA_nil rfl | refine leA_agg ?_ | refine leA_tup ?_ | exact leB_free | exact leB_dead | refine leL_cons ?_ ?_ | refine leH_cons ?_ ?_ | refine leB_cells ?_ | fail)
  | none =>
    rw [hf] at h145
    simp only [op2, hf]
    have hw1 : IntKind.i64.wrap (([a, b].length : Int) - 1) = 1 := by rw [wI (by simp)]; simp
    refine fnT hT hmx Try.func117 rfl rfl (ex := []) ?_
    conv => whnf
    refine ⟨[], _, h145, ?_⟩
    conv => whnf
    refine ⟨⟨by omega, by simp⟩, fun x hx => ?_⟩
    obtain rfl : a = x := by simpa using hx
    conv => whnf
    rw [hw1]
    refine ⟨⟨by omega, by simp⟩, fun x hx => ?_⟩
    obtain rfl : b = x := by simpa using hx
    conv => whnf
    repeat' first
      | (refine brI (fun h => ?_) (fun h => ?_) <;> (conv => whnf))
      | refine And.intro ?_ leH_nil
      | (refine ⟨[], _, f146 a 0, ?_⟩; conv => whnf)
      | (refine ⟨[], _, f146 a 1, ?_⟩; conv => whnf)
      | (refine ⟨[], _, f146 b 0, ?_⟩; conv => whnf)
      | (refine ⟨[], _, f146 b 1, ?_⟩; conv => whnf)
      | (refine ⟨[], _, f74 0, ?_⟩; conv => whnf)
      | fail
    all_goals first
      | (have e : sim2 3 a b = opE 3 0 [a, b] := by simp_all [sim2]
         rw [e]; exact leA_refl rfl)
      | (have e : sim2 3 a b = a := by simp_all [sim2]
         rw [e]; exact leA_ex rfl)
      | (have e : sim2 3 a b = b := by simp_all [sim2]
         rw [e]; exact leA_ex rfl)
      | (have e : sim2 3 a b = numE 0 := by simp_all [sim2]
         rw [e]; exact leA_ex rfl)
      | fail
end Go.Proofs.Ytmcdnbmamoggoaa

/-
  Simple forms: operations with two operands, of the kind 4.
-/
namespace Go.Proofs.Ytmcdnbmamoggoaa
open Go Go.Sx
set_option maxRecDepth 100000
set_option maxHeartbeats 8000000
theorem f117_4 (a b : Ex) (hb : b.k = 7 → b.l ≠ []) : Fn 117 [] [exV 4 ⟨0, 0⟩ [] 0 [a, b]] (.agg (exC (op2 4 a b))) [] := by
  have h145 := f145 4 0 ⟨0, 0⟩ [] [a, b] (by omega) (by simp) (by simp) (by simp)
  cases hf : foldN 4 0 [a, b] with
  | some r =>
    rw [hf] at h145
    simp only [op2, hf]
    refine fnT hT hmx Try.func117 rfl rfl (ex := []) ?_
    conv => whnf
    refine ⟨[], _, h145, ?_⟩
    conv => whnf
    (refine And.intro ?_ ?_; repeat' first | exact leL_nil | exact leH_nil | exact leA_any | exact leA_refl rfl | exact leA_nil rfl | refine leA_agg ?_ | refine leA_tup ?_ | exact leB_free | exact leB_dead | refine leL_cons ?_ ?_ | refine leH_cons ?_ ?_ | refine leB_cells ?_ | fail)
  | none =>
    rw [hf] at h145
    simp only [op2, hf]
    have hw1 : IntKind.i64.wrap (([a, b].length : Int) - 1) = 1 := by rw [wI (by simp)]; simp
    refine fnT hT hmx Try.func117 rfl rfl (ex := []) ?_
    conv => whnf
    refine ⟨[], _, h145, ?_⟩
    conv => whnf
    refine ⟨⟨by omega, by simp⟩, fun x hx => ?_⟩
    obtain rfl : a = x := by simpa using hx
    conv => whnf
    rw [hw1]
    refine ⟨⟨by omega, by simp⟩, fun x hx => ?_⟩
    obtain rfl : b = x := by simpa using hx
    conv => whnf
    repeat' first
      | (refine brI (fun h => ?_) (fun h => ?_) <;> (conv => whnf))
      | refine And.intro ?_ leH_nil
      | (refine ⟨[], _, f146 a 0, ?_⟩; conv => whnf)
      | (refine ⟨[], _, f146 a 1, ?_⟩; conv => whnf)
      | (refine ⟨[], _, f146 b 0, ?_⟩; conv => whnf)
      | (refine ⟨[], _, f146 b 1, ?_⟩; conv => whnf)
      | (refine ⟨[], _, f115_7 b hb, ?_⟩; conv => whnf)
      | (refine ⟨[], _, f74 0, ?_⟩; conv => whnf)
      | fail
    all_goals first
      | (have e : sim2 4 a b = opE 4 0 [a, b] := by simp_all [sim2, negS_op]
         rw [e]; exact leA_refl rfl)
      | (have e : sim2 4 a b = a := by simp_all [sim2, negS_op]
         rw [e]; exact leA_ex rfl)
      | (have e : sim2 4 a b = b := by simp_all [sim2, negS_op]
         rw [e]; exact leA_ex rfl)
      | (have e : sim2 4 a b = numE 0 := by simp_all [sim2, negS_op]
         rw [e]; exact leA_ex rfl)
      | (have e : sim2 4 a b = op1 7 0 b := by simp_all [sim2, negS_op]
         rw [e]; exact leA_ex rfl)
      | fail
end Go.Proofs.Ytmcdnbmamoggoaa

/-
  Simple forms: operations with two operands, of the kind 5.
-/
namespace Go.Proofs.Ytmcdnbmamoggoaa
open Go Go.Sx
set_option maxRecDepth 100000
set_option maxHeartbeats 8000000
theorem f117_5 (a b : Ex) : Fn 117 [] [exV 5 ⟨0, 0⟩ [] 0 [a, b]] (.agg (exC (op2 5 a b))) [] := by
  have h145 := f145 5 0 ⟨0, 0⟩ [] [a, b] (by omega) (by simp) (by simp) (by simp)
  cases hf : foldN 5 0 [a, b] with
  | some r =>
    rw [hf] at h145
    simp only [op2, hf]
    refine fnT hT hmx Try.func117 rfl rfl (ex := []) ?_
    conv => whnf
    refine ⟨[], _, h145, ?_⟩
    conv => whnf
    (refine And.intro ?_ ?_; repeat' first | exact leL_nil | exact leH_nil | exact leA_any | exact leA_refl rfl | exact leA_nil rfl | refine leA_agg ?_ | refine leA_tup ?_ | exact leB_free | exact leB_dead | refine leL_cons ?_ ?_ | refine leH_cons ?_ ?_ | refine leB_cells ?_ | fail)
  | none =>
    rw [hf] at h145
    simp only [op2, hf]
    have hw1 : IntKind.i64.wrap (([a, b].length : Int) - 1) = 1 := by rw [wI (by simp)]; simp
    refine fnT hT hmx Try.func117 rfl rfl (ex := []) ?_
    conv => whnf
    refine ⟨[], _, h145, ?_⟩
    conv => whnf
    refine ⟨⟨by omega, by simp⟩, fun x hx => ?_⟩
    obtain rfl : a = x := by simpa using hx
    conv => whnf
    rw [hw1]
    refine ⟨⟨by omega, by simp⟩, fun x hx => ?_⟩
    obtain rfl : b = x := by simpa using hx
    conv => whnf
    repeat' first
      | (refine brI (fun h => ?_) (fun h => ?_) <;> (conv => whnf))
      | refine And.intro ?_ leH_nil
      | (refine ⟨[], _, f146 a 0, ?_⟩; conv => whnf)
      | (refine ⟨[], _, f146 a 1, ?_⟩; conv => whnf)
      | (refine ⟨[], _, f146 b 0, ?_⟩; conv => whnf)
      | (refine ⟨[], _, f146 b 1, ?_⟩; conv => whnf)
      | (refine ⟨[], _, f74 0, ?_⟩; conv => whnf)
      | fail
    all_goals first
      | (have e : sim2 5 a b = opE 5 0 [a, b] := by simp_all [sim2]
         rw [e]; exact leA_refl rfl)
      | (have e : sim2 5 a b = a := by simp_all [sim2]
         rw [e]; exact leA_ex rfl)
      | (have e : sim2 5 a b = b := by simp_all [sim2]
         rw [e]; exact leA_ex rfl)
      | (have e : sim2 5 a b = numE 0 := by simp_all [sim2]
         rw [e]; exact leA_ex rfl)
      | fail
end Go.Proofs.Ytmcdnbmamoggoaa

/-
  Simple forms: operations with two operands, of the kind 6.
-/
namespace Go.Proofs.Ytmcdnbmamoggoaa
open Go Go.Sx
set_option maxRecDepth 100000
set_option maxHeartbeats 8000000
theorem f117_6 (a b : Ex) : Fn 117 [] [exV 6 ⟨0, 0⟩ [] 0 [a, b]] (.agg (exC (op2 6 a b))) [] := by
  have h145 := f145 6 0 ⟨0, 0⟩ [] [a, b] (by omega) (by simp) (by simp) (by simp)
  cases hf : foldN 6 0 [a, b] with
  | some r =>
    rw [hf] at h145
    simp only [op2, hf]
    refine fnT hT hmx Try.func117 rfl rfl (ex := []) ?_
    conv => whnf
    refine ⟨[], _, h145, ?_⟩
    conv => whnf
    (refine And.intro ?_ ?_; repeat' first | exact leL_nil | exact leH_nil | exact leA_any | exact leA_refl rfl | exact leA_nil rfl | refine leA_agg ?_ | refine leA_tup ?_ | exact leB_free | exact leB_dead | refine leL_cons ?_ ?_ | refine leH_cons ?_ ?_ | refine leB_cells ?_ | fail)
  | none =>
    rw [hf] at h145
    simp only [op2, hf]
    have hw1 : IntKind.i64.wrap (([a, b].length : Int) - 1) = 1 := by rw [wI (by simp)]; simp
    refine fnT hT hmx Try.func117 rfl rfl (ex := []) ?_
    conv => whnf
    refine ⟨[], _, h145, ?_⟩
    conv => whnf
    refine ⟨⟨by omega, by simp⟩, fun x hx => ?_⟩
    obtain rfl : a = x := by simpa using hx
    conv => whnf
    rw [hw1]
    refine ⟨⟨by omega, by simp⟩, fun x hx => ?_⟩
    obtain rfl : b = x := by simpa using hx
    conv => whnf
    repeat' first
      | (refine brI (fun h => ?_) (fun h => ?_) <;> (conv => whnf))
      | refine And.intro ?_ leH_nil
      | (refine ⟨[], _, f146 a 0, ?_⟩; conv => whnf)
      | (refine ⟨[], _, f146 a 1, ?_⟩; conv => whnf)
      | (refine ⟨[], _, f146 b 0, ?_⟩; conv => whnf)
      | (refine ⟨[], _, f146 b 1, ?_⟩; conv => whnf)
      | (refine ⟨[], _, f74 0, ?_⟩; conv => whnf)
      | fail
    all_goals first
      | (have e : sim2 6 a b = opE 6 0 [a, b] := by simp_all [sim2]
         rw [e]; exact leA_refl rfl)
      | (have e : sim2 6 a b = a := by simp_all [sim2]
         rw [e]; exact leA_ex rfl)
      | (have e : sim2 6 a b = b := by simp_all [sim2]
         rw [e]; exact leA_ex rfl)
      | (have e : sim2 6 a b = numE 0 := by simp_all [sim2]
         rw [e]; exact leA_ex rfl)
      | fail
end Go.Proofs.Ytmcdnbmamoggoaa
