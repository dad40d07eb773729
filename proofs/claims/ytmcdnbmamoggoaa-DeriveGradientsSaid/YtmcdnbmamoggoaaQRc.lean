/-
  The reference: simple forms with two operands, of the kind 3.
-/
import Derived.Test.YtmcdnbmamoggoaaQRb
import Derived.Test.YtmcdnbmamoggoaaQCk
import Derived.Test.YtmcdnbmamoggoaaQUR2
import Derived.Test.YtmcdnbmamoggoaaQUD
set_option linter.unusedVariables false
set_option linter.unusedSimpArgs false
namespace Go.Proofs.Ytmcdnbmamoggoaa
open Go Go.Sx
set_option maxRecDepth 100000
set_option maxHeartbeats 8000000
theorem f70_3 (a b : Ex) : Fn 70 [] [.int .i64 3, .int .i64 0, .sl .ex [a, b]] (.agg (exC (op2 3 a b))) [] := by
  have h124 := f124_3 0 [a, b] (by simp) (by simp)
  cases hf : foldN 3 0 [a, b] with
  | some r =>
    simp only [foldR, hf] at h124
    simp only [op2, hf]
    refine fnK_sound hT hmx Try.func70 rfl rfl (ex := []) ?_
    conv => whnf
    refine ⟨[], _, h124, ?_⟩
    conv => whnf
    (refine And.intro ?_ ?_; repeat' first | exact leL_nil | exact leH_nil | exact leA_any | exact leA_refl rfl | exact leA_nil rfl | refine leA_agg ?_ | refine leA_tup ?_ | exact leB_free | exact leB_dead | refine leL_cons ?_ ?_ | refine leH_cons ?_ ?_ | refine leB_cells ?_ | fail)
  | none =>
    simp only [foldR, hf] at h124
    simp only [op2, hf]
    refine fnK_sound hT hmx Try.func70 rfl rfl (ex := []) ?_
    conv => whnf
    refine ⟨[], _, h124, ?_⟩
    conv => whnf
    repeat' first
      | (refine brI (fun h => ?_) (fun h => ?_) <;> (conv => whnf))
      | refine And.intro ?_ leH_nil
      | (refine ix0 ?_; conv => whnf)
      | (refine ix1 ?_; conv => whnf)
      | (refine cbI [] (isB a 0) (f125 a 0) (fun h => ?_) (fun h => ?_) <;> (conv => whnf))
      | (refine cbI [] (isB b 0) (f125 b 0) (fun h => ?_) (fun h => ?_) <;> (conv => whnf))
      | (refine ⟨[], _, f59 0, ?_⟩; conv => whnf)
      | fail
    all_goals first
      | (have e : sim2 3 a b = opE 3 0 [a, b] := by simp_all [sim2]
         rw [e]; exact leA_refl rfl)
      | (have e : sim2 3 a b = a := by simp_all [sim2]
         rw [e]; exact leA_ex rfl)
      | (have e : sim2 3 a b = b := by simp_all [sim2]
         rw [e]; exact leA_ex rfl)
      | (have e : sim2 3 a b = numE 0 := by simp_all [sim2]
         rw [e]; exact leA_ex rfl)
      | fail
end Go.Proofs.Ytmcdnbmamoggoaa

/-
  The reference: simple forms with two operands, of the kind 4.
-/
namespace Go.Proofs.Ytmcdnbmamoggoaa
open Go Go.Sx
set_option maxRecDepth 100000
set_option maxHeartbeats 8000000
theorem f70_4 (a b : Ex) (hb : b.k = 7 → b.l ≠ []) : Fn 70 [] [.int .i64 4, .int .i64 0, .sl .ex [a, b]] (.agg (exC (op2 4 a b))) [] := by
  have h124 := f124_4 0 [a, b] (by simp) (by simp)
  cases hf : foldN 4 0 [a, b] with
  | some r =>
    simp only [foldR, hf] at h124
    simp only [op2, hf]
    refine fnK_sound hT hmx Try.func70 rfl rfl (ex := []) ?_
    conv => whnf
    refine ⟨[], _, h124, ?_⟩
    conv => whnf
    (refine And.intro ?_ ?_; repeat' first | exact leL_nil | exact leH_nil | exact leA_any | exact leA_refl rfl | exact leA_nil rfl | refine leA_agg ?_ | refine leA_tup ?_ | exact leB_free | exact leB_dead | refine leL_cons ?_ ?_ | refine leH_cons ?_ ?_ | refine leB_cells ?_ | fail)
  | none =>
    simp only [foldR, hf] at h124
    simp only [op2, hf]
    refine fnK_sound hT hmx Try.func70 rfl rfl (ex := []) ?_
    conv => whnf
    refine ⟨[], _, h124, ?_⟩
    conv => whnf
    repeat' first
      | (refine brI (fun h => ?_) (fun h => ?_) <;> (conv => whnf))
      | refine And.intro ?_ leH_nil
      | (refine ix0 ?_; conv => whnf)
      | (refine ix1 ?_; conv => whnf)
      | (refine cbI [] (isB a 0) (f125 a 0) (fun h => ?_) (fun h => ?_) <;> (conv => whnf))
      | (refine cbI [] (isB b 0) (f125 b 0) (fun h => ?_) (fun h => ?_) <;> (conv => whnf))
      | (refine ⟨[], _, f59 0, ?_⟩; conv => whnf)
      | (refine ⟨[], _, (by rw [Ex.eta2]; exact f70_7 0 b hb), ?_⟩; conv => whnf)
      | fail
    all_goals first
      | (have e : sim2 4 a b = opE 4 0 [a, b] := by simp_all [sim2, negS_op]
         rw [e]; exact leA_refl rfl)
      | (have e : sim2 4 a b = a := by simp_all [sim2, negS_op]
         rw [e]; exact leA_ex rfl)
      | (have e : sim2 4 a b = b := by simp_all [sim2, negS_op]
         rw [e]; exact leA_ex rfl)
      | (have e : sim2 4 a b = numE 0 := by simp_all [sim2, negS_op]
         rw [e]; exact leA_ex rfl)
      | (have e : sim2 4 a b = op1 7 0 b := by simp_all [sim2, negS_op]
         rw [e]; exact leA_ex rfl)
      | fail
end Go.Proofs.Ytmcdnbmamoggoaa

/-
  The reference: simple forms with two operands, of the kind 5.
-/
namespace Go.Proofs.Ytmcdnbmamoggoaa
open Go Go.Sx
set_option maxRecDepth 100000
set_option maxHeartbeats 8000000
theorem f70_5 (a b : Ex) : Fn 70 [] [.int .i64 5, .int .i64 0, .sl .ex [a, b]] (.agg (exC (op2 5 a b))) [] := by
  have h124 := f124_5 0 [a, b] (by simp) (by simp)
  cases hf : foldN 5 0 [a, b] with
  | some r =>
    simp only [foldR, hf] at h124
    simp only [op2, hf]
    refine fnK_sound hT hmx Try.func70 rfl rfl (ex := []) ?_
    conv => whnf
    refine ⟨[], _, h124, ?_⟩
    conv => whnf
    (refine And.intro ?_ ?_; repeat' first | exact leL_nil | exact leH_nil | exact leA_any | exact leA_refl rfl | exact leA_nil rfl | refine leA_agg ?_ | refine leA_tup ?_ | exact leB_free | exact leB_dead | refine leL_cons ?_ ?_ | refine leH_cons ?_ ?_ | refine leB_cells ?_ | fail)
  | none =>
    simp only [foldR, hf] at h124
    simp only [op2, hf]
    refine fnK_sound hT hmx Try.func70 rfl rfl (ex := []) ?_
    conv => whnf
    refine ⟨[], _, h124, ?_⟩
    conv => whnf
    repeat' first
      | (refine brI (fun h => ?_) (fun h => ?_) <;> (conv => whnf))
      | refine And.intro ?_ leH_nil
      | (refine ix0 ?_; conv => whnf)
      | (refine ix1 ?_; conv => whnf)
      | (refine cbI [] (isB a 0) (f125 a 0) (fun h => ?_) (fun h => ?_) <;> (conv => whnf))
      | (refine cbI [] (isB b 0) (f125 b 0) (fun h => ?_) (fun h => ?_) <;> (conv => whnf))
      | (refine ⟨[], _, f59 0, ?_⟩; conv => whnf)
      | (refine cbI [] (isB a 1) (f125 a 1) (fun h => ?_) (fun h => ?_) <;> (conv => whnf))
      | (refine cbI [] (isB b 1) (f125 b 1) (fun h => ?_) (fun h => ?_) <;> (conv => whnf))
      | fail
    all_goals first
      | (have e : sim2 5 a b = opE 5 0 [a, b] := by simp_all [sim2]
         rw [e]; exact leA_refl rfl)
      | (have e : sim2 5 a b = a := by simp_all [sim2]
         rw [e]; exact leA_ex rfl)
      | (have e : sim2 5 a b = b := by simp_all [sim2]
         rw [e]; exact leA_ex rfl)
      | (have e : sim2 5 a b = numE 0 := by simp_all [sim2]
         rw [e]; exact leA_ex rfl)
      | fail
end Go.Proofs.Ytmcdnbmamoggoaa

/-
  The reference: simple forms with two operands, of the kind 6.
-/
namespace Go.Proofs.Ytmcdnbmamoggoaa
open Go Go.Sx
set_option maxRecDepth 100000
set_option maxHeartbeats 8000000
theorem f70_6 (a b : Ex) : Fn 70 [] [.int .i64 6, .int .i64 0, .sl .ex [a, b]] (.agg (exC (op2 6 a b))) [] := by
  have h124 := f124_6 0 [a, b] (by simp) (by simp)
  cases hf : foldN 6 0 [a, b] with
  | some r =>
    simp only [foldR, hf] at h124
    simp only [op2, hf]
    refine fnK_sound hT hmx Try.func70 rfl rfl (ex := []) ?_
    conv => whnf
    refine ⟨[], _, h124, ?_⟩
    conv => whnf
    (refine And.intro ?_ ?_; repeat' first | exact leL_nil | exact leH_nil | exact leA_any | exact leA_refl rfl | exact leA_nil rfl | refine leA_agg ?_ | refine leA_tup ?_ | exact leB_free | exact leB_dead | refine leL_cons ?_ ?_ | refine leH_cons ?_ ?_ | refine leB_cells ?_ | fail)
  | none =>
    simp only [foldR, hf] at h124
    simp only [op2, hf]
    refine fnK_sound hT hmx Try.func70 rfl rfl (ex := []) ?_
    conv => whnf
    refine ⟨[], _, h124, ?_⟩
    conv => whnf
    repeat' first
      | (refine brI (fun h => ?_) (fun h => ?_) <;> (conv => whnf))
      | refine And.intro ?_ leH_nil
      | (refine ix0 ?_; conv => whnf)
      | (refine ix1 ?_; conv => whnf)
      | (refine cbI [] (isB a 0) (f125 a 0) (fun h => ?_) (fun h => ?_) <;> (conv => whnf))
      | (refine cbI [] (isB b 0) (f125 b 0) (fun h => ?_) (fun h => ?_) <;> (conv => whnf))
      | (refine ⟨[], _, f59 0, ?_⟩; conv => whnf)
      | (refine cbI [] (isB b 1) (f125 b 1) (fun h => ?_) (fun h => ?_) <;> (conv => whnf))
      | fail
    all_goals first
      | (have e : sim2 6 a b = opE 6 0 [a, b] := by simp_all [sim2]
         rw [e]; exact leA_refl rfl)
      | (have e : sim2 6 a b = a := by simp_all [sim2]
         rw [e]; exact leA_ex rfl)
      | (have e : sim2 6 a b = b := by simp_all [sim2]
         rw [e]; exact leA_ex rfl)
      | (have e : sim2 6 a b = numE 0 := by simp_all [sim2]
         rw [e]; exact leA_ex rfl)
      | fail
end Go.Proofs.Ytmcdnbmamoggoaa

/-
  The reference: One, Two, power.
-/
namespace Go.Proofs.Ytmcdnbmamoggoaa
open Go Go.Sx
set_option maxRecDepth 100000
set_option maxHeartbeats 8000000
theorem f121 {k : Int} {a : Ex} (hk : K1 k) (ha : VT a) : Fn 121 [] [.int .i64 k, .agg (exC a)] (.agg (exC (op1 k 0 a))) [] := by
  rcases hk with rfl | rfl | rfl | rfl | rfl | rfl
  · refine fnK_sound hT hmx Try.func121 rfl rfl (ex := []) ?_
    conv => whnf
    rw [Ex.eta2]
    refine ⟨[], _, f70_7 0 a (VT_l ha), ?_⟩
    conv => whnf
    exact ⟨leA_ex rfl, leH_nil⟩
  · refine fnK_sound hT hmx Try.func121 rfl rfl (ex := []) ?_
    conv => whnf
    rw [Ex.eta2]
    refine ⟨[], _, f70_9 0 a, ?_⟩
    conv => whnf
    exact ⟨leA_ex rfl, leH_nil⟩
  · refine fnK_sound hT hmx Try.func121 rfl rfl (ex := []) ?_
    conv => whnf
    rw [Ex.eta2]
    refine ⟨[], _, f70_10 0 a, ?_⟩
    conv => whnf
    exact ⟨leA_ex rfl, leH_nil⟩
  · refine fnK_sound hT hmx Try.func121 rfl rfl (ex := []) ?_
    conv => whnf
    rw [Ex.eta2]
    refine ⟨[], _, f70_11 0 a, ?_⟩
    conv => whnf
    exact ⟨leA_ex rfl, leH_nil⟩
  · refine fnK_sound hT hmx Try.func121 rfl rfl (ex := []) ?_
    conv => whnf
    rw [Ex.eta2]
    refine ⟨[], _, f70_12 0 a, ?_⟩
    conv => whnf
    exact ⟨leA_ex rfl, leH_nil⟩
  · refine fnK_sound hT hmx Try.func121 rfl rfl (ex := []) ?_
    conv => whnf
    rw [Ex.eta2]
    refine ⟨[], _, f70_13 0 a, ?_⟩
    conv => whnf
    exact ⟨leA_ex rfl, leH_nil⟩
theorem f120 {n : Int} {a : Ex} (hn : n ≤ 1000) : Fn 120 [] [.agg (exC a), .int .i64 n] (.agg (exC (op1 8 n a))) [] := by
  refine fnK_sound hT hmx Try.func120 rfl rfl (ex := []) ?_
  conv => whnf
  rw [Ex.eta2]
  refine ⟨[], _, f70_8 n a hn, ?_⟩
  conv => whnf
  exact ⟨leA_ex rfl, leH_nil⟩
theorem f76 {k : Int} {a b : Ex} (hk : K2 k) (hb : VT b) : Fn 76 [] [.int .i64 k, .agg (exC a), .agg (exC b)] (.agg (exC (op2 k a b))) [] := by
  rcases hk with rfl | rfl | rfl | rfl
  · refine fnK_sound hT hmx Try.func76 rfl rfl (ex := []) ?_
    conv => whnf
    rw [Ex.eta2, Ex.eta2]
    refine ⟨[], _, f70_3 a b, ?_⟩
    conv => whnf
    exact ⟨leA_ex rfl, leH_nil⟩
  · refine fnK_sound hT hmx Try.func76 rfl rfl (ex := []) ?_
    conv => whnf
    rw [Ex.eta2, Ex.eta2]
    refine ⟨[], _, f70_4 a b (VT_l hb), ?_⟩
    conv => whnf
    exact ⟨leA_ex rfl, leH_nil⟩
  · refine fnK_sound hT hmx Try.func76 rfl rfl (ex := []) ?_
    conv => whnf
    rw [Ex.eta2, Ex.eta2]
    refine ⟨[], _, f70_5 a b, ?_⟩
    conv => whnf
    exact ⟨leA_ex rfl, leH_nil⟩
  · refine fnK_sound hT hmx Try.func76 rfl rfl (ex := []) ?_
    conv => whnf
    rw [Ex.eta2, Ex.eta2]
    refine ⟨[], _, f70_6 a b, ?_⟩
    conv => whnf
    exact ⟨leA_ex rfl, leH_nil⟩
end Go.Proofs.Ytmcdnbmamoggoaa
