/-
  The reference: simple forms with one operand.
-/
import Derived.Test.YtmcdnbmamoggoaaQUR1
import Derived.Test.YtmcdnbmamoggoaaQURc
import Derived.Test.YtmcdnbmamoggoaaQRb
import Derived.Test.YtmcdnbmamoggoaaQCk
set_option linter.unusedVariables false
set_option linter.unusedSimpArgs false
namespace Go.Proofs.Ytmcdnbmamoggoaa
open Go Go.Sx
set_option maxRecDepth 100000
set_option maxHeartbeats 8000000
theorem f70_7 (n : Int) (a : Ex) (ha : a.k = 7 → a.l ≠ []) : Fn 70 [] [.int .i64 7, .int .i64 n, .sl .ex [a]] (.agg (exC (op1 7 n a))) [] := by
  have h124 := f124_7 n [a] (by simp) (by simp)
  cases hf : foldN 7 n [a] with
  | some r =>
    simp only [foldR, hf] at h124
    simp only [op1, hf]
    refine fnK_sound hT hmx Try.func70 rfl rfl (ex := []) ?_
    conv => whnf
    refine ⟨[], _, h124, ?_⟩
    conv => whnf
    (refine And.intro ?_ ?_; repeat' first | exact leL_nil | exact leH_nil | exact leA_any | exact leA_refl rfl | exact leA_nil rfl | refine leA_agg ?_ | refine leA_tup ?_ | exact leB_free | exact leB_dead | refine leL_cons ?_ ?_ | refine leH_cons ?_ ?_ | refine leB_cells ?_ | fail)
  | none =>
    simp only [foldR, hf] at h124
    simp only [op1, hf]
    refine fnK_sound hT hmx Try.func70 rfl rfl (ex := []) ?_
    conv => whnf
    refine ⟨[], _, h124, ?_⟩
    conv => whnf
    refine ix0 ?_
    conv => whnf
    refine brI (fun h => ?_) (fun h => ?_)
    · conv => whnf
      have h : a.k = 7 := by simpa using h
      obtain ⟨y, r, hr⟩ : ∃ y r, a.l = y :: r := by
        cases e : a.l with
        | nil => exact absurd e (ha h)
        | cons y r => exact ⟨y, r, rfl⟩
      refine ix0 ?_
      conv => whnf
      refine ⟨⟨by omega, by rw [hr]; simp⟩, fun x hx => ?_⟩
      obtain rfl : y = x := by rw [hr] at hx; simpa using hx
      conv => whnf
      have e : sim1 7 n a = y := by simp [sim1, h, hr]
      rw [e]
      exact ⟨leA_ex rfl, leH_nil⟩
    · conv => whnf
      have h : a.k ≠ 7 := by simpa using h
      have e : sim1 7 n a = opE 7 n [a] := by simp [sim1, h]
      rw [e]
      exact ⟨leA_refl rfl, leH_nil⟩
theorem f70_8 (n : Int) (a : Ex) (hn : n ≤ 1000) : Fn 70 [] [.int .i64 8, .int .i64 n, .sl .ex [a]] (.agg (exC (op1 8 n a))) [] := by
  have h124 := f124_8 n [a] (by simp) (by simp) hn
  cases hf : foldN 8 n [a] with
  | some r =>
    simp only [foldR, hf] at h124
    simp only [op1, hf]
    refine fnK_sound hT hmx Try.func70 rfl rfl (ex := []) ?_
    conv => whnf
    refine ⟨[], _, h124, ?_⟩
    conv => whnf
    (refine And.intro ?_ ?_; repeat' first | exact leL_nil | exact leH_nil | exact leA_any | exact leA_refl rfl | exact leA_nil rfl | refine leA_agg ?_ | refine leA_tup ?_ | exact leB_free | exact leB_dead | refine leL_cons ?_ ?_ | refine leH_cons ?_ ?_ | refine leB_cells ?_ | fail)
  | none =>
    simp only [foldR, hf] at h124
    simp only [op1, hf]
    refine fnK_sound hT hmx Try.func70 rfl rfl (ex := []) ?_
    conv => whnf
    refine ⟨[], _, h124, ?_⟩
    conv => whnf
    repeat' first
      | (refine brI (fun h => ?_) (fun h => ?_) <;> (conv => whnf))
      | refine And.intro ?_ leH_nil
      | (refine ix0 ?_; conv => whnf)
      | (refine ⟨[], _, f59 1, ?_⟩; conv => whnf)
      | fail
    all_goals first
      | (have e : sim1 8 n a = opE 8 n [a] := by simp_all [sim1]
         rw [e]; exact leA_refl rfl)
      | (have e : sim1 8 n a = a := by simp_all [sim1]
         rw [e]; exact leA_ex rfl)
      | (have e : sim1 8 n a = numE 1 := by simp_all [sim1]
         rw [e]; exact leA_ex rfl)
      | (have e : sim1 8 n a = numE 0 := by simp_all [sim1]
         rw [e]; exact leA_ex rfl)
      | fail
theorem f70_9 (n : Int) (a : Ex) : Fn 70 [] [.int .i64 9, .int .i64 n, .sl .ex [a]] (.agg (exC (op1 9 n a))) [] := by
  have h124 := f124_9 n [a] (by simp) (by simp)
  have hf : foldN 9 n [a] = none := by simp [foldN]
  simp only [foldR, hf] at h124
  simp only [op1, hf]
  refine fnK_sound hT hmx Try.func70 rfl rfl (ex := []) ?_
  conv => whnf
  refine ⟨[], _, h124, ?_⟩
  conv => whnf
  repeat' first
    | (refine brI (fun h => ?_) (fun h => ?_) <;> (conv => whnf))
    | refine And.intro ?_ leH_nil
    | (refine ix0 ?_; conv => whnf)
    | (refine cbI [] (isB a 0) (f125 a 0) (fun h => ?_) (fun h => ?_) <;> (conv => whnf))
    | (refine ⟨[], _, f59 1, ?_⟩; conv => whnf)
    | fail
  all_goals first
    | (have e : sim1 9 n a = opE 9 n [a] := by simp_all [sim1]
       rw [e]; exact leA_refl rfl)
    | (have e : sim1 9 n a = a := by simp_all [sim1]
       rw [e]; exact leA_ex rfl)
    | (have e : sim1 9 n a = numE 1 := by simp_all [sim1]
       rw [e]; exact leA_ex rfl)
    | (have e : sim1 9 n a = numE 0 := by simp_all [sim1]
       rw [e]; exact leA_ex rfl)
    | fail
theorem f70_10 (n : Int) (a : Ex) : Fn 70 [] [.int .i64 10, .int .i64 n, .sl .ex [a]] (.agg (exC (op1 10 n a))) [] := by
  have h124 := f124_10 n [a] (by simp) (by simp)
  have hf : foldN 10 n [a] = none := by simp [foldN]
  simp only [foldR, hf] at h124
  simp only [op1, hf]
  refine fnK_sound hT hmx Try.func70 rfl rfl (ex := []) ?_
  conv => whnf
  refine ⟨[], _, h124, ?_⟩
  conv => whnf
  repeat' first
    | (refine brI (fun h => ?_) (fun h => ?_) <;> (conv => whnf))
    | refine And.intro ?_ leH_nil
    | (refine ix0 ?_; conv => whnf)
    | (refine cbI [] (isB a 1) (f125 a 1) (fun h => ?_) (fun h => ?_) <;> (conv => whnf))
    | (refine ⟨[], _, f59 0, ?_⟩; conv => whnf)
    | fail
  all_goals first
    | (have e : sim1 10 n a = opE 10 n [a] := by simp_all [sim1]
       rw [e]; exact leA_refl rfl)
    | (have e : sim1 10 n a = a := by simp_all [sim1]
       rw [e]; exact leA_ex rfl)
    | (have e : sim1 10 n a = numE 1 := by simp_all [sim1]
       rw [e]; exact leA_ex rfl)
    | (have e : sim1 10 n a = numE 0 := by simp_all [sim1]
       rw [e]; exact leA_ex rfl)
    | fail
theorem f70_11 (n : Int) (a : Ex) : Fn 70 [] [.int .i64 11, .int .i64 n, .sl .ex [a]] (.agg (exC (op1 11 n a))) [] := by
  have h124 := f124_11 n [a] (by simp) (by simp)
  have hf : foldN 11 n [a] = none := by simp [foldN]
  simp only [foldR, hf] at h124
  simp only [op1, hf]
  refine fnK_sound hT hmx Try.func70 rfl rfl (ex := []) ?_
  conv => whnf
  refine ⟨[], _, h124, ?_⟩
  conv => whnf
  repeat' first
    | (refine brI (fun h => ?_) (fun h => ?_) <;> (conv => whnf))
    | refine And.intro ?_ leH_nil
    | (refine ix0 ?_; conv => whnf)
    | (refine cbI [] (isB a 0) (f125 a 0) (fun h => ?_) (fun h => ?_) <;> (conv => whnf))
    | (refine ⟨[], _, f59 0, ?_⟩; conv => whnf)
    | fail
  all_goals first
    | (have e : sim1 11 n a = opE 11 n [a] := by simp_all [sim1]
       rw [e]; exact leA_refl rfl)
    | (have e : sim1 11 n a = a := by simp_all [sim1]
       rw [e]; exact leA_ex rfl)
    | (have e : sim1 11 n a = numE 1 := by simp_all [sim1]
       rw [e]; exact leA_ex rfl)
    | (have e : sim1 11 n a = numE 0 := by simp_all [sim1]
       rw [e]; exact leA_ex rfl)
    | fail
theorem f70_12 (n : Int) (a : Ex) : Fn 70 [] [.int .i64 12, .int .i64 n, .sl .ex [a]] (.agg (exC (op1 12 n a))) [] := by
  have h124 := f124_12 n [a] (by simp) (by simp)
  have hf : foldN 12 n [a] = none := by simp [foldN]
  simp only [foldR, hf] at h124
  simp only [op1, hf]
  refine fnK_sound hT hmx Try.func70 rfl rfl (ex := []) ?_
  conv => whnf
  refine ⟨[], _, h124, ?_⟩
  conv => whnf
  repeat' first
    | (refine brI (fun h => ?_) (fun h => ?_) <;> (conv => whnf))
    | refine And.intro ?_ leH_nil
    | (refine ix0 ?_; conv => whnf)
    | (refine cbI [] (isB a 0) (f125 a 0) (fun h => ?_) (fun h => ?_) <;> (conv => whnf))
    | (refine ⟨[], _, f59 1, ?_⟩; conv => whnf)
    | fail
  all_goals first
    | (have e : sim1 12 n a = opE 12 n [a] := by simp_all [sim1]
       rw [e]; exact leA_refl rfl)
    | (have e : sim1 12 n a = a := by simp_all [sim1]
       rw [e]; exact leA_ex rfl)
    | (have e : sim1 12 n a = numE 1 := by simp_all [sim1]
       rw [e]; exact leA_ex rfl)
    | (have e : sim1 12 n a = numE 0 := by simp_all [sim1]
       rw [e]; exact leA_ex rfl)
    | fail
theorem f70_13 (n : Int) (a : Ex) : Fn 70 [] [.int .i64 13, .int .i64 n, .sl .ex [a]] (.agg (exC (op1 13 n a))) [] := by
  have h124 := f124_13 n [a] (by simp) (by simp)
  have hf : foldN 13 n [a] = none := by simp [foldN]
  simp only [foldR, hf] at h124
  simp only [op1, hf]
  refine fnK_sound hT hmx Try.func70 rfl rfl (ex := []) ?_
  conv => whnf
  refine ⟨[], _, h124, ?_⟩
  conv => whnf
  repeat' first
    | (refine brI (fun h => ?_) (fun h => ?_) <;> (conv => whnf))
    | refine And.intro ?_ leH_nil
    | (refine ix0 ?_; conv => whnf)
    | (refine cbI [] (isB a 1) (f125 a 1) (fun h => ?_) (fun h => ?_) <;> (conv => whnf))
    | (refine ⟨[], _, f59 1, ?_⟩; conv => whnf)
    | fail
  all_goals first
    | (have e : sim1 13 n a = opE 13 n [a] := by simp_all [sim1]
       rw [e]; exact leA_refl rfl)
    | (have e : sim1 13 n a = a := by simp_all [sim1]
       rw [e]; exact leA_ex rfl)
    | (have e : sim1 13 n a = numE 1 := by simp_all [sim1]
       rw [e]; exact leA_ex rfl)
    | (have e : sim1 13 n a = numE 0 := by simp_all [sim1]
       rw [e]; exact leA_ex rfl)
    | fail
end Go.Proofs.Ytmcdnbmamoggoaa
