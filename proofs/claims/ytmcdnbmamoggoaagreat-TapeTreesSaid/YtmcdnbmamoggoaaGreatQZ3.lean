/-
  Seat .Z: the reference's valid trees.
-/
import Derived.Test.YtmcdnbmamoggoaaGreatQZ2
import Derived.Test.YtmcdnbmamoggoaaGreatQUa
import Derived.Test.YtmcdnbmamoggoaaGreatQZv
set_option linter.unusedVariables false
set_option linter.unusedSimpArgs false
namespace Go.Proofs.YtmcdnbmamoggoaaGreat
open Go Go.Sx
set_option maxRecDepth 100000
set_option maxHeartbeats 8000000
/-- How many elements a kind has. -/
def agR (k : Int) : Int := if k = 1 ∨ k = 2 then 0 else opn k
theorem z100 (k : Int) : Fn 100 [] [.int .i64 k] (.int .i64 (agR k)) [] := by
  refine fnT hT hmx Tryz.func100 rfl rfl (ex := []) ?_
  conv => whnf
  repeat' first
    | (refine brI (fun h => ?_) (fun h => ?_) <;> (conv => whnf))
    | refine And.intro (leA_int ?_) leH_nil
    | fail
  all_goals (simp only [beq_iff_eq, beq_eq_false_iff_ne, ne_eq] at *; unfold agR opn; repeat' split)
  all_goals first | rfl | omega
theorem opn8 : opn 8 = 1 := rfl
theorem z77 (e : Ex) (hs : e.s.length < 9223372036854775808) : Fn 77 [] [.agg (exC e)] (.bool (nodeB e)) [] := by
  refine fnT hT hmx Tryz.func77 rfl rfl (ex := []) ?_
  conv => whnf
  refine ⟨[], _, z100 e.k, ?_⟩
  conv => whnf
  repeat' first
    | (refine brI (fun h => ?_) (fun h => ?_) <;> (conv => whnf))
    | refine And.intro (leA_bool ?_) leH_nil
    | (refine ⟨[], _, f131 e.q.n e.q.d, ?_⟩; conv => whnf)
    | (refine ⟨[], _, z60 e.s hs, ?_⟩; conv => whnf)
    | (refine And.intro (by kernel_rfl) (And.intro (by kernel_rfl) ?_); conv => whnf)
    | fail
  all_goals (obtain ⟨k, ⟨n, d⟩, s, p, l⟩ := e; simp only [Ex.k, Ex.q, Ex.s, Ex.p, Ex.l] at *; by_cases k1 : k = 1 <;> by_cases k2 : k = 2 <;> by_cases k8 : k = 8 <;> simp_all [nodeB, numB, varB, powB, opB, agR, opn8, Ex.k, Ex.q, Ex.s, Ex.p, Ex.l])
  · intro _ _ _ _ _; exact decide_eq_false (by omega)
  · exact decide_eq_true (by omega)
  · rw [Bool.eq_iff_iff]
    constructor
    · intro h5; rw [Bool.and_eq_true, Bool.and_eq_true]; exact ⟨⟨decide_eq_true (by omega), h5⟩, decide_eq_true (by omega)⟩
    · intro h5; rw [Bool.and_eq_true, Bool.and_eq_true] at h5; exact h5.1.2
  · intro h5 _; have := of_decide_eq_true h5; omega
theorem rcL_stop {l : List Ex} {n a : Nat} (h : 200 < a) : rcL l n a = a := by
  cases l with
  | nil => rfl
  | cons x l => simp only [rcL]; rw [if_neg (by omega)]
theorem z59 : ∀ (e : Ex), Sm e → ∀ n : Nat, n ≤ 20 → Fn 59 [] [.agg (exC e), .int .i64 n] (.int .i64 (rcE e n : Nat)) [] := by
  refine exInd fun k q s p l ih hs => ?_
  simp only [Sm] at hs
  intro n hn
  have hnode := z77 (.mk k q s p l) hs.1
  obtain ⟨A, hA⟩ : ∃ A, rcE (.mk k q s p l) n = A := ⟨_, rfl⟩
  rw [hA]
  show Fn 59 [] [.agg [.int .i64 k, .int .i64 q.n, .int .i64 q.d, .str s, .int .i64 p, .sl .ex l], .int .i64 n] (.int .i64 A) []
  refine fnT hT hmx Tryz.func59 rfl rfl (ex := []) ?_
  conv => whnf
  refine brI (fun h => ?_) (fun h => ?_)
  · have h : n = 0 := by simp only [beq_iff_eq] at h; omega
    subst h
    simp only [rcE] at hA
    subst hA
    conv => whnf
    exact ⟨leA_refl rfl, leH_nil⟩
  have h : n ≠ 0 := by simp only [beq_eq_false_iff_ne] at h; omega
  obtain ⟨m, rfl⟩ : ∃ m, n = m + 1 := ⟨n - 1, by omega⟩
  simp only [rcE] at hA
  conv => whnf
  refine cbI [] (nodeB (.mk k q s p l)) hnode (fun h1 => ?_) (fun h1 => ?_)
  rotate_left
  · rw [if_neg (by rw [h1]; simp)] at hA
    subst hA
    conv => whnf
    exact ⟨leA_refl rfl, leH_nil⟩
  rw [if_pos h1] at hA
  conv => whnf
  refine ⟨Nat × Nat, fun x => x.1 ≤ l.length ∧ x.2 ≤ 2000000 ∧ rcL (l.drop x.1) m x.2 = A, fun x => [(5, .int .i64 x.2), (6, .int .i64 x.1)], fun _ => [], fun x => l.length - x.1, (0, 1), ⟨by simp, by simp, hA⟩, ?_, fun x hx => ?_⟩
  · ((conv => whnf); refine And.intro ?_ ?_; repeat' first | refine leL_cons ?_ ?_ | exact leA_any | exact leA_refl rfl | exact leL_nil | refine leH_cons ?_ ?_ | exact leH_nil | exact leB_free | exact leB_dead | refine leB_cells ?_ | exact leB_map rfl | exact leB_gst rfl | exact leA_nil rfl | refine leA_agg ?_ | refine leA_tup ?_ | fail)
  (refine ⟨by kernel_rfl, ?_⟩; (conv => whnf))
  obtain ⟨i, a⟩ := x
  obtain ⟨hi1, hi2, hi3⟩ := hx
  simp only at hi1 hi2 hi3
  refine brI (fun h2 => ?_) (fun h2 => ?_)
  · have hi : i < l.length := by simp only [decide_eq_true_eq] at h2; omega
    conv => whnf
    refine brI (fun h3 => ?_) (fun h3 => ?_)
    · have h3 : a ≤ 200 := by simp only [decide_eq_true_eq] at h3; omega
      conv => whnf
      refine ⟨⟨by omega, by simp only; omega⟩, fun x hx => ?_⟩
      have hx : l[i]? = some x := by simpa using hx
      have hm := List.mem_of_getElem? hx
      have hc := ih x hm (SmL_mem hs.2.2 x hm) m (by omega)
      have hle := rcE_le x m
      rw [drop_get hx] at hi3
      simp only [rcL] at hi3
      rw [if_pos h3] at hi3
      have hw : IntKind.i64.wrap (((m + 1 : Nat) : Int) - 1) = (m : Int) := by rw [wI (by omega)]; omega
      conv => whnf
      refine ⟨[], .int .i64 (rcE x m : Nat), ?_, ?_⟩
      · show Fn 59 [] [.agg (exC x), .int .i64 (IntKind.i64.wrap (((m + 1 : Nat) : Int) - 1))] _ _
        rw [hw]; exact hc
      conv => whnf
      refine ⟨(i + 1, a + rcE x m), ⟨by simp only; omega, by simp only; omega, hi3⟩, by show l.length - (i + 1) < l.length - i; omega, ?_⟩
      ((conv => whnf); refine And.intro ?_ ?_; repeat' first | refine leL_cons ?_ ?_ | exact leA_any | exact leA_refl rfl | exact leL_nil | refine leH_cons ?_ ?_ | exact leH_nil | exact leB_free | exact leB_dead | refine leB_cells ?_ | exact leB_map rfl | exact leB_gst rfl | exact leA_nil rfl | refine leA_agg ?_ | refine leA_tup ?_ | fail)
      · exact leA_int (by rw [wI (by simp only; omega)]; simp only; omega)
      · exact leA_int (by rw [wI (by simp only; omega)]; simp only; omega)
    · have h3 : 200 < a := by simp only [decide_eq_false_iff_not] at h3; omega
      rw [rcL_stop h3] at hi3
      conv => whnf
      exact ⟨leA_int (by rw [hi3]), leH_nil⟩
  · have hi : ¬ i < l.length := by simp only [decide_eq_false_iff_not] at h2; omega
    rw [List.drop_of_length_le (by omega)] at hi3
    simp only [rcL] at hi3
    conv => whnf
    exact ⟨leA_int (by rw [hi3]), leH_nil⟩
theorem z32 (e : Ex) (hs : Sm e) : Fn 32 [] [.agg (exC e)] (.bool (okT e)) [] := by
  have h59 := z59 e hs 20 (by omega)
  refine fnT hT hmx Tryz.func32 rfl rfl (ex := []) ?_
  conv => whnf
  refine ⟨[], .int .i64 (rcE e 20 : Nat), ?_, ?_⟩
  · cases e; exact h59
  conv => whnf
  exact ⟨leA_bool (rc_okT e), leH_nil⟩
end Go.Proofs.YtmcdnbmamoggoaaGreat
