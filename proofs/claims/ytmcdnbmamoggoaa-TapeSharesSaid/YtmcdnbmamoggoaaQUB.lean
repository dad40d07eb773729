/-
  Simple forms: derive.simple.
-/
import Derived.Test.YtmcdnbmamoggoaaQUA
set_option linter.unusedVariables false
set_option linter.unusedSimpArgs false
namespace Go.Proofs.Ytmcdnbmamoggoaa
open Go Go.Sx
set_option maxRecDepth 100000
set_option maxHeartbeats 8000000
/-- The simple form of a change of sign. -/
def negS (b : Ex) : Ex := match foldN 7 0 [b] with
  | some r => ratE r
  | none => if b.k = 7 then (match b.l with | x :: _ => x | [] => opE 7 0 [b]) else opE 7 0 [b]
/-- The simple form of an operation with one operand, where it is none with numbers. -/
def sim1 (k n : Int) (a : Ex) : Ex :=
  if k = 7 then (if a.k = 7 then (match a.l with | x :: _ => x | [] => opE 7 n [a]) else opE 7 n [a])
  else if k = 8 then (if n = 0 then numE 1 else if n = 1 then a else opE 8 n [a])
  else if k = 9 ∨ k = 12 then (if isB a 0 then numE 1 else opE k n [a])
  else if k = 10 then (if isB a 1 then numE 0 else opE k n [a])
  else if k = 11 then (if isB a 0 then numE 0 else opE k n [a])
  else if k = 13 then (if isB a 1 then numE 1 else opE k n [a])
  else opE k n [a]
/-- The simple form of an operation with two operands, where it is none with numbers. -/
def sim2 (k : Int) (a b : Ex) : Ex :=
  if k = 3 then (if isB a 0 then b else if isB b 0 then a else opE 3 0 [a, b])
  else if k = 4 then (if isB b 0 then a else if isB a 0 then negS b else opE 4 0 [a, b])
  else if k = 5 then (if isB a 0 || isB b 0 then numE 0 else if isB a 1 then b else if isB b 1 then a else opE 5 0 [a, b])
  else (if isB a 0 && !isB b 0 then numE 0 else if isB b 1 then a else opE k 0 [a, b])
def op1 (k n : Int) (a : Ex) : Ex := match foldN k n [a] with
  | some r => ratE r
  | none => sim1 k n a
def op2 (k : Int) (a b : Ex) : Ex := match foldN k 0 [a, b] with
  | some r => ratE r
  | none => sim2 k a b
theorem leA_exE {h h' : Hp} {e : Ex} {k qn qd p : Int} {s : Bytes} {l : AV} (h1 : k = e.k) (h2 : qn = e.q.n) (h3 : qd = e.q.d) (h4 : s = e.s) (h5 : p = e.p) (h6 : leA h h' l (.sl .ex e.l)) :
    leA h h' (.agg [.int .i64 k, .int .i64 qn, .int .i64 qd, .str s, .int .i64 p, l]) (.agg (exC e)) := by
  subst h1; subst h2; subst h3; subst h4; subst h5
  exact leA_agg (leL_cons (leA_refl rfl) (leL_cons (leA_refl rfl) (leL_cons (leA_refl rfl) (leL_cons (leA_refl rfl) (leL_cons (leA_refl rfl) (leL_cons h6 leL_nil))))))
theorem f117_8 (n : Int) (a : Ex) (hn : n ≤ 1000) : Fn 117 [] [exV 8 ⟨0, 0⟩ [] n [a]] (.agg (exC (op1 8 n a))) [] := by
  have h145 := f145 8 n ⟨0, 0⟩ [] [a] hn (by simp) (by omega) (by simp)
  cases hf : foldN 8 n [a] with
  | some r =>
    rw [hf] at h145
    simp only [op1, hf]
    refine fnT hT hmx Try.func117 rfl rfl (ex := []) ?_
    conv => whnf
    refine ⟨[], _, h145, ?_⟩
    conv => whnf
    (refine And.intro ?_ ?_; repeat' first | exact leL_nil | exact leH_nil | exact leA_any | exact leA_refl rfl | exact leA_nil rfl | refine leA_agg ?_ | refine leA_tup ?_ | exact leB_free | exact leB_dead | refine leL_cons ?_ ?_ | refine leH_cons ?_ ?_ | refine leB_cells ?_ | fail)
  | none =>
    rw [hf] at h145
    simp only [op1, hf]
    have hw1 : IntKind.i64.wrap (([a].length : Int) - 1) = 0 := by rw [wI (by simp)]; simp
    refine fnT hT hmx Try.func117 rfl rfl (ex := []) ?_
    conv => whnf
    refine ⟨[], _, h145, ?_⟩
    conv => whnf
    refine ⟨⟨by omega, by simp⟩, fun x hx => ?_⟩
    obtain rfl : a = x := by simpa using hx
    conv => whnf
    rw [hw1]
    refine ⟨⟨by omega, by simp⟩, fun x hx => ?_⟩
    obtain rfl : a = x := by simpa using hx
    conv => whnf
    repeat' first
      | (refine brI (fun h => ?_) (fun h => ?_) <;> (conv => whnf))
      | refine And.intro ?_ leH_nil
      | (refine ⟨[], _, f146 a 0, ?_⟩; conv => whnf)
      | (refine ⟨[], _, f146 a 1, ?_⟩; conv => whnf)
      | (refine ⟨[], _, f74 0, ?_⟩; conv => whnf)
      | (refine ⟨[], _, f74 1, ?_⟩; conv => whnf)
      | fail
    all_goals first
      | (have e : sim1 8 n a = opE 8 n [a] := by simp_all [sim1]
         rw [e]; exact leA_refl rfl)
      | (have e : sim1 8 n a = numE 1 := by simp_all [sim1]
         rw [e]; exact leA_ex rfl)
      | (have e : sim1 8 n a = numE 0 := by simp_all [sim1]
         rw [e]; exact leA_ex rfl)
      | (have e : sim1 8 n a = a := by simp_all [sim1]
         rw [e]; exact leA_ex rfl)
      | fail
theorem f117_9 (n : Int) (a : Ex) (hn : n ≤ 1000) : Fn 117 [] [exV 9 ⟨0, 0⟩ [] n [a]] (.agg (exC (op1 9 n a))) [] := by
  have h145 := f145 9 n ⟨0, 0⟩ [] [a] hn (by simp) (by omega) (by simp)
  have hf : foldN 9 n [a] = none := by simp [foldN]
  rw [hf] at h145
  simp only [op1, hf]
  have hw1 : IntKind.i64.wrap (([a].length : Int) - 1) = 0 := by rw [wI (by simp)]; simp
  refine fnT hT hmx Try.func117 rfl rfl (ex := []) ?_
  conv => whnf
  refine ⟨[], _, h145, ?_⟩
  conv => whnf
  refine ⟨⟨by omega, by simp⟩, fun x hx => ?_⟩
  obtain rfl : a = x := by simpa using hx
  conv => whnf
  rw [hw1]
  refine ⟨⟨by omega, by simp⟩, fun x hx => ?_⟩
  obtain rfl : a = x := by simpa using hx
  conv => whnf
  repeat' first
    | (refine brI (fun h => ?_) (fun h => ?_) <;> (conv => whnf))
    | refine And.intro ?_ leH_nil
    | (refine ⟨[], _, f146 a 0, ?_⟩; conv => whnf)
    | (refine ⟨[], _, f146 a 1, ?_⟩; conv => whnf)
    | (refine ⟨[], _, f74 0, ?_⟩; conv => whnf)
    | (refine ⟨[], _, f74 1, ?_⟩; conv => whnf)
    | fail
  all_goals first
    | (have e : sim1 9 n a = opE 9 n [a] := by simp_all [sim1]
       rw [e]; exact leA_refl rfl)
    | (have e : sim1 9 n a = numE 1 := by simp_all [sim1]
       rw [e]; exact leA_ex rfl)
    | (have e : sim1 9 n a = numE 0 := by simp_all [sim1]
       rw [e]; exact leA_ex rfl)
    | (have e : sim1 9 n a = a := by simp_all [sim1]
       rw [e]; exact leA_ex rfl)
    | fail
theorem f117_10 (n : Int) (a : Ex) (hn : n ≤ 1000) : Fn 117 [] [exV 10 ⟨0, 0⟩ [] n [a]] (.agg (exC (op1 10 n a))) [] := by
  have h145 := f145 10 n ⟨0, 0⟩ [] [a] hn (by simp) (by omega) (by simp)
  have hf : foldN 10 n [a] = none := by simp [foldN]
  rw [hf] at h145
  simp only [op1, hf]
  have hw1 : IntKind.i64.wrap (([a].length : Int) - 1) = 0 := by rw [wI (by simp)]; simp
  refine fnT hT hmx Try.func117 rfl rfl (ex := []) ?_
  conv => whnf
  refine ⟨[], _, h145, ?_⟩
  conv => whnf
  refine ⟨⟨by omega, by simp⟩, fun x hx => ?_⟩
  obtain rfl : a = x := by simpa using hx
  conv => whnf
  rw [hw1]
  refine ⟨⟨by omega, by simp⟩, fun x hx => ?_⟩
  obtain rfl : a = x := by simpa using hx
  conv => whnf
  repeat' first
    | (refine brI (fun h => ?_) (fun h => ?_) <;> (conv => whnf))
    | refine And.intro ?_ leH_nil
    | (refine ⟨[], _, f146 a 0, ?_⟩; conv => whnf)
    | (refine ⟨[], _, f146 a 1, ?_⟩; conv => whnf)
    | (refine ⟨[], _, f74 0, ?_⟩; conv => whnf)
    | (refine ⟨[], _, f74 1, ?_⟩; conv => whnf)
    | fail
  all_goals first
    | (have e : sim1 10 n a = opE 10 n [a] := by simp_all [sim1]
       rw [e]; exact leA_refl rfl)
    | (have e : sim1 10 n a = numE 1 := by simp_all [sim1]
       rw [e]; exact leA_ex rfl)
    | (have e : sim1 10 n a = numE 0 := by simp_all [sim1]
       rw [e]; exact leA_ex rfl)
    | (have e : sim1 10 n a = a := by simp_all [sim1]
       rw [e]; exact leA_ex rfl)
    | fail
theorem f117_11 (n : Int) (a : Ex) (hn : n ≤ 1000) : Fn 117 [] [exV 11 ⟨0, 0⟩ [] n [a]] (.agg (exC (op1 11 n a))) [] := by
  have h145 := f145 11 n ⟨0, 0⟩ [] [a] hn (by simp) (by omega) (by simp)
  have hf : foldN 11 n [a] = none := by simp [foldN]
  rw [hf] at h145
  simp only [op1, hf]
  have hw1 : IntKind.i64.wrap (([a].length : Int) - 1) = 0 := by rw [wI (by simp)]; simp
  refine fnT hT hmx Try.func117 rfl rfl (ex := []) ?_
  conv => whnf
  refine ⟨[], _, h145, ?_⟩
  conv => whnf
  refine ⟨⟨by omega, by simp⟩, fun x hx => ?_⟩
  obtain rfl : a = x := by simpa using hx
  conv => whnf
  rw [hw1]
  refine ⟨⟨by omega, by simp⟩, fun x hx => ?_⟩
  obtain rfl : a = x := by simpa using hx
  conv => whnf
  repeat' first
    | (refine brI (fun h => ?_) (fun h => ?_) <;> (conv => whnf))
    | refine And.intro ?_ leH_nil
    | (refine ⟨[], _, f146 a 0, ?_⟩; conv => whnf)
    | (refine ⟨[], _, f146 a 1, ?_⟩; conv => whnf)
    | (refine ⟨[], _, f74 0, ?_⟩; conv => whnf)
    | (refine ⟨[], _, f74 1, ?_⟩; conv => whnf)
    | fail
  all_goals first
    | (have e : sim1 11 n a = opE 11 n [a] := by simp_all [sim1]
       rw [e]; exact leA_refl rfl)
    | (have e : sim1 11 n a = numE 1 := by simp_all [sim1]
       rw [e]; exact leA_ex rfl)
    | (have e : sim1 11 n a = numE 0 := by simp_all [sim1]
       rw [e]; exact leA_ex rfl)
    | (have e : sim1 11 n a = a := by simp_all [sim1]
       rw [e]; exact leA_ex rfl)
    | fail
theorem f117_12 (n : Int) (a : Ex) (hn : n ≤ 1000) : Fn 117 [] [exV 12 ⟨0, 0⟩ [] n [a]] (.agg (exC (op1 12 n a))) [] := by
  have h145 := f145 12 n ⟨0, 0⟩ [] [a] hn (by simp) (by omega) (by simp)
  have hf : foldN 12 n [a] = none := by simp [foldN]
  rw [hf] at h145
  simp only [op1, hf]
  have hw1 : IntKind.i64.wrap (([a].length : Int) - 1) = 0 := by rw [wI (by simp)]; simp
  refine fnT hT hmx Try.func117 rfl rfl (ex := []) ?_
  conv => whnf
  refine ⟨[], _, h145, ?_⟩
  conv => whnf
  refine ⟨⟨by omega, by simp⟩, fun x hx => ?_⟩
  obtain rfl : a = x := by simpa using hx
  conv => whnf
  rw [hw1]
  refine ⟨⟨by omega, by simp⟩, fun x hx => ?_⟩
  obtain rfl : a = x := by simpa using hx
  conv => whnf
  repeat' first
    | (refine brI (fun h => ?_) (fun h => ?_) <;> (conv => whnf))
    | refine And.intro ?_ leH_nil
    | (refine ⟨[], _, f146 a 0, ?_⟩; conv => whnf)
    | (refine ⟨[], _, f146 a 1, ?_⟩; conv => whnf)
    | (refine ⟨[], _, f74 0, ?_⟩; conv => whnf)
    | (refine ⟨[], _, f74 1, ?_⟩; conv => whnf)
    | fail
  all_goals first
    | (have e : sim1 12 n a = opE 12 n [a] := by simp_all [sim1]
       rw [e]; exact leA_refl rfl)
    | (have e : sim1 12 n a = numE 1 := by simp_all [sim1]
       rw [e]; exact leA_ex rfl)
    | (have e : sim1 12 n a = numE 0 := by simp_all [sim1]
       rw [e]; exact leA_ex rfl)
    | (have e : sim1 12 n a = a := by simp_all [sim1]
       rw [e]; exact leA_ex rfl)
    | fail
theorem f117_13 (n : Int) (a : Ex) (hn : n ≤ 1000) : Fn 117 [] [exV 13 ⟨0, 0⟩ [] n [a]] (.agg (exC (op1 13 n a))) [] := by
  have h145 := f145 13 n ⟨0, 0⟩ [] [a] hn (by simp) (by omega) (by simp)
  have hf : foldN 13 n [a] = none := by simp [foldN]
  rw [hf] at h145
  simp only [op1, hf]
  have hw1 : IntKind.i64.wrap (([a].length : Int) - 1) = 0 := by rw [wI (by simp)]; simp
  refine fnT hT hmx Try.func117 rfl rfl (ex := []) ?_
  conv => whnf
  refine ⟨[], _, h145, ?_⟩
  conv => whnf
  refine ⟨⟨by omega, by simp⟩, fun x hx => ?_⟩
  obtain rfl : a = x := by simpa using hx
  conv => whnf
  rw [hw1]
  refine ⟨⟨by omega, by simp⟩, fun x hx => ?_⟩
  obtain rfl : a = x := by simpa using hx
  conv => whnf
  repeat' first
    | (refine brI (fun h => ?_) (fun h => ?_) <;> (conv => whnf))
    | refine And.intro ?_ leH_nil
    | (refine ⟨[], _, f146 a 0, ?_⟩; conv => whnf)
    | (refine ⟨[], _, f146 a 1, ?_⟩; conv => whnf)
    | (refine ⟨[], _, f74 0, ?_⟩; conv => whnf)
    | (refine ⟨[], _, f74 1, ?_⟩; conv => whnf)
    | fail
  all_goals first
    | (have e : sim1 13 n a = opE 13 n [a] := by simp_all [sim1]
       rw [e]; exact leA_refl rfl)
    | (have e : sim1 13 n a = numE 1 := by simp_all [sim1]
       rw [e]; exact leA_ex rfl)
    | (have e : sim1 13 n a = numE 0 := by simp_all [sim1]
       rw [e]; exact leA_ex rfl)
    | (have e : sim1 13 n a = a := by simp_all [sim1]
       rw [e]; exact leA_ex rfl)
    | fail
theorem f117_7 (n : Int) (a : Ex) (hn : n ≤ 1000) (ha : a.k = 7 → a.l ≠ []) : Fn 117 [] [exV 7 ⟨0, 0⟩ [] n [a]] (.agg (exC (op1 7 n a))) [] := by
  have h145 := f145 7 n ⟨0, 0⟩ [] [a] hn (by simp) (by omega) (by simp)
  cases hf : foldN 7 n [a] with
  | some r =>
    rw [hf] at h145
    simp only [op1, hf]
    refine fnT hT hmx Try.func117 rfl rfl (ex := []) ?_
    conv => whnf
    refine ⟨[], _, h145, ?_⟩
    conv => whnf
    (refine And.intro ?_ ?_; repeat' first | exact leL_nil | exact leH_nil | exact leA_any | exact leA_refl rfl | exact leA_nil rfl | refine leA_agg ?_ | refine leA_tup ?_ | exact leB_free | exact leB_dead | refine leL_cons ?_ ?_ | refine leH_cons ?_ ?_ | refine leB_cells ?_ | fail)
  | none =>
    rw [hf] at h145
    simp only [op1, hf]
    have hw1 : IntKind.i64.wrap (([a].length : Int) - 1) = 0 := by rw [wI (by simp)]; simp
    refine fnT hT hmx Try.func117 rfl rfl (ex := []) ?_
    conv => whnf
    refine ⟨[], _, h145, ?_⟩
    conv => whnf
    refine ⟨⟨by omega, by simp⟩, fun x hx => ?_⟩
    obtain rfl : a = x := by simpa using hx
    conv => whnf
    rw [hw1]
    refine ⟨⟨by omega, by simp⟩, fun x hx => ?_⟩
    obtain rfl : a = x := by simpa using hx
    conv => whnf
    refine brI (fun h => ?_) (fun h => ?_)
    · conv => whnf
      have h : a.k = 7 := by simpa using h
      obtain ⟨y, r, hr⟩ : ∃ y r, a.l = y :: r := by
        cases e : a.l with
        | nil => exact absurd e (ha h)
        | cons y r => exact ⟨y, r, rfl⟩
      refine ⟨⟨by omega, by rw [hr]; simp⟩, fun x hx => ?_⟩
      obtain rfl : y = x := by rw [hr] at hx; simpa using hx
      conv => whnf
      have e : sim1 7 n a = y := by simp [sim1, h, hr]
      rw [e]
      exact ⟨leA_ex rfl, leH_nil⟩
    · conv => whnf
      have h : a.k ≠ 7 := by simpa using h
      have e : sim1 7 n a = opE 7 n [a] := by simp [sim1, h]
      rw [e]
      exact ⟨leA_refl rfl, leH_nil⟩
end Go.Proofs.Ytmcdnbmamoggoaa
