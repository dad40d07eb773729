/-
  The reference's count of nodes: plain functions.
-/
import Derived.Test.YtnijmbnkcmhfpaaGreatDoorQVa
import Derived.Test.YtnijmbnkcmhfpaaGreatDoorQZ2
import Derived.Test.YtnijmbnkcmhfpaaGreatDoorQUa
import Derived.Test.YtnijmbnkcmhfpaaGreatDoorQIX
import Derived.Test.YtnijmbnkcmhfpaaGreatDoorQYa
import Derived.Test.YtnijmbnkcmhfpaaGreatDoorQZz
import Derived.Test.YtnijmbnkcmhfpaaGreatDoorQUs
import Derived.Test.YtnijmbnkcmhfpaaGreatDoorQWx
set_option linter.unusedVariables false
set_option linter.unusedSimpArgs false
namespace Go.Proofs.YtnijmbnkcmhfpaaGreatDoor
open Go Go.Sx
mutual
/-- The reference's count. -/
def rcE : Ex → Nat → Nat
  | .mk _ _ _ _ _, 0 => 1048576
  | .mk k q s p l, n + 1 => if nodeB (.mk k q s p l) = true then rcL l n 1 else 1048576
def rcL : List Ex → Nat → Nat → Nat
  | [], _, a => a
  | x :: l, n, a => if a ≤ 200 then rcL l n (a + rcE x n) else a
end
mutual
theorem rcE_le : ∀ (e : Ex) (n : Nat), rcE e n ≤ 1048576 + 200 * n
  | .mk _ _ _ _ _, 0 => by simp [rcE]
  | .mk k q s p l, n + 1 => by
    have h := rcL_le l n 1
    simp only [rcE]
    split <;> omega
theorem rcL_le : ∀ (l : List Ex) (n a : Nat), rcL l n a ≤ max a (1048776 + 200 * n)
  | [], n, a => by simp only [rcL]; omega
  | x :: l, n, a => by
    have h1 := rcE_le x n
    have h2 := rcL_le l n (a + rcE x n)
    simp only [rcL]
    split <;> omega
end
theorem depE_pos (e : Ex) : 1 ≤ depE e := by cases e; simp [depE]
mutual
theorem rcE_iff : ∀ (e : Ex) (n : Nat), (rcE e n ≤ 200 ↔ VS e ∧ depE e ≤ n ∧ sizE e ≤ 200) ∧ (rcE e n ≤ 200 → rcE e n = sizE e)
  | .mk k q s p l, 0 => by
    have h := depE_pos (.mk k q s p l)
    simp only [rcE]
    exact ⟨⟨fun h1 => by omega, fun h1 => by omega⟩, fun h1 => by omega⟩
  | .mk k q s p l, n + 1 => by
    have ih := rcL_iff l n 1
    simp only [rcE, VS, depE, sizE]
    by_cases h : nodeB (.mk k q s p l) = true
    · rw [if_pos h]
      refine ⟨⟨fun h1 => ?_, fun h1 => ?_⟩, fun h1 => ?_⟩
      · have := ih.1.1 h1; exact ⟨⟨h, this.1⟩, by omega, by omega⟩
      · exact ih.1.2 ⟨h1.1.2, by omega, by omega⟩
      · have := ih.2 h1; omega
    · rw [if_neg h]
      exact ⟨⟨fun h1 => by omega, fun h1 => absurd h1.1.1 h⟩, fun h1 => by omega⟩
theorem rcL_iff : ∀ (l : List Ex) (n a : Nat), (rcL l n a ≤ 200 ↔ VSL l ∧ depL l ≤ n ∧ a + sizL l ≤ 200) ∧ (rcL l n a ≤ 200 → rcL l n a = a + sizL l)
  | [], n, a => by
    simp only [rcL, VSL, depL, sizL]
    exact ⟨⟨fun h => ⟨trivial, by omega, by omega⟩, fun h => by omega⟩, fun _ => rfl⟩
  | x :: l, n, a => by
    have i1 := rcE_iff x n
    have i2 := rcL_iff l n (a + rcE x n)
    simp only [rcL, VSL, depL, sizL]
    by_cases h : a ≤ 200
    · rw [if_pos h]
      refine ⟨⟨fun h1 => ?_, fun h1 => ?_⟩, fun h1 => ?_⟩
      · have h2 := i2.1.1 h1
        have h3 := i1.1.1 (by omega)
        have h4 := i1.2 (by omega)
        exact ⟨⟨h3.1, h2.1⟩, by omega, by omega⟩
      · have h3 := i1.1.2 ⟨h1.1.1, by omega, by omega⟩
        have h4 := i1.2 h3
        exact i2.1.2 ⟨h1.1.2, by omega, by omega⟩
      · have h2 := i2.1.1 h1
        have h4 := i1.2 (by omega)
        have h5 := i2.2 h1
        omega
    · rw [if_neg h]
      exact ⟨⟨fun h1 => absurd h1 h, fun h1 => by omega⟩, fun h1 => absurd h1 h⟩
end
theorem rc_okT (e : Ex) : decide ((rcE e 20 : Int) ≤ 200) = okT e := by
  rw [Bool.eq_iff_iff, decide_eq_true_eq, okT_iff, ← (rcE_iff e 20).1]; omega
end Go.Proofs.YtnijmbnkcmhfpaaGreatDoor

/-
  Seat .Z: the reference's valid trees.
-/
namespace Go.Proofs.YtnijmbnkcmhfpaaGreatDoor
open Go Go.Sx
set_option maxRecDepth 100000
set_option maxHeartbeats 8000000
/-- How many elements a kind has. -/
def agR (k : Int) : Int := if k = 1 ∨ k = 2 then 0 else opn k
theorem z100 (k : Int) : Fn 160 [] [.int .i64 k] (.int .i64 (agR k)) [] := by
  refine fnT hT hmx Tryz.func160 rfl rfl (ex := []) ?_
  conv => whnf
  repeat' first
    | (refine brI (fun h => ?_) (fun h => ?_) <;> (conv => whnf))
    | refine And.intro (leA_int ?_) leH_nil
    | fail
  all_goals (simp only [beq_iff_eq, beq_eq_false_iff_ne, ne_eq] at *; unfold agR opn; repeat' split)
  all_goals first | rfl | omega
theorem opn8 : opn 8 = 1 := rfl
theorem z77 (e : Ex) (hs : e.s.length < 9223372036854775808) : Fn 116 [] [.agg (exC e)] (.bool (nodeB e)) [] := by
  refine fnT hT hmx Tryz.func116 rfl rfl (ex := []) ?_
  conv => whnf
  refine ⟨[], _, z100 e.k, ?_⟩
  conv => whnf
  repeat' first
    | (refine brI (fun h => ?_) (fun h => ?_) <;> (conv => whnf))
    | refine And.intro (leA_bool ?_) leH_nil
    | (refine ⟨[], _, f131 e.q.n e.q.d, ?_⟩; conv => whnf)
    | (refine ⟨[], _, z60 e.s hs, ?_⟩; conv => whnf)
    | (refine And.intro (by kernel_rfl) (And.intro (by kernel_rfl) ?_); conv => whnf)
    | fail
  all_goals (obtain ⟨k, ⟨n, d⟩, s, p, l⟩ := e; simp only [Ex.k, Ex.q, Ex.s, Ex.p, Ex.l] at *; by_cases k1 : k = 1 <;> by_cases k2 : k = 2 <;> by_cases k8 : k = 8 <;> simp_all [nodeB, numB, varB, powB, opB, agR, opn8, Ex.k, Ex.q, Ex.s, Ex.p, Ex.l])
  · intro _ _ _ _ _; exact decide_eq_false (by omega)
  · exact decide_eq_true (by omega)
  · rw [Bool.eq_iff_iff]
    constructor
    · intro h5; rw [Bool.and_eq_true, Bool.and_eq_true]; exact ⟨⟨decide_eq_true (by omega), h5⟩, decide_eq_true (by omega)⟩
    · intro h5; rw [Bool.and_eq_true, Bool.and_eq_true] at h5; exact h5.1.2
  · intro h5 _; have := of_decide_eq_true h5; omega
theorem rcL_stop {l : List Ex} {n a : Nat} (h : 200 < a) : rcL l n a = a := by
  cases l with
  | nil => rfl
  | cons x l => simp only [rcL]; rw [if_neg (by omega)]
theorem z59 : ∀ (e : Ex), Sm e → ∀ n : Nat, n ≤ 20 → Fn 70 [] [.agg (exC e), .int .i64 n] (.int .i64 (rcE e n : Nat)) [] := by
  refine exInd fun k q s p l ih hs => ?_
  simp only [Sm] at hs
  intro n hn
  have hnode := z77 (.mk k q s p l) hs.1
  obtain ⟨A, hA⟩ : ∃ A, rcE (.mk k q s p l) n = A := ⟨_, rfl⟩
  rw [hA]
  show Fn 70 [] [.agg [.int .i64 k, .int .i64 q.n, .int .i64 q.d, .str s, .int .i64 p, .sl .ex l], .int .i64 n] (.int .i64 A) []
  refine fnT hT hmx Tryz.func70 rfl rfl (ex := []) ?_
  conv => whnf
  refine brI (fun h => ?_) (fun h => ?_)
  · have h : n = 0 := by simp only [beq_iff_eq] at h; omega
    subst h
    simp only [rcE] at hA
    subst hA
    conv => whnf
    exact ⟨leA_refl rfl, leH_nil⟩
  have h : n ≠ 0 := by simp only [beq_eq_false_iff_ne] at h; omega
  obtain ⟨m, rfl⟩ : ∃ m, n = m + 1 := ⟨n - 1, by omega⟩
  simp only [rcE] at hA
  conv => whnf
  refine cbI [] (nodeB (.mk k q s p l)) hnode (fun h1 => ?_) (fun h1 => ?_)
  rotate_left
  · rw [if_neg (by rw [h1]; simp)] at hA
    subst hA
    conv => whnf
    exact ⟨leA_refl rfl, leH_nil⟩
  rw [if_pos h1] at hA
  conv => whnf
  refine ⟨Nat × Nat, fun x => x.1 ≤ l.length ∧ x.2 ≤ 2000000 ∧ rcL (l.drop x.1) m x.2 = A, fun x => [(5, .int .i64 x.2), (6, .int .i64 x.1)], fun _ => [], fun x => l.length - x.1, (0, 1), ⟨by simp, by simp, hA⟩, ?_, fun x hx => ?_⟩
  · ((conv => whnf); refine And.intro ?_ ?_; repeat' first | refine leL_cons ?_ ?_ | exact leA_any | exact leA_refl rfl | exact leL_nil | refine leH_cons ?_ ?_ | exact leH_nil | exact leB_free | exact leB_dead | refine leB_cells ?_ | exact leB_map rfl | exact leB_gst rfl | exact leA_nil rfl | refine leA_agg ?_ | refine leA_tup ?_ | fail)
  (refine ⟨by kernel_rfl, ?_⟩; (conv => whnf))
  obtain ⟨i, a⟩ := x
  obtain ⟨hi1, hi2, hi3⟩ := hx
  simp only at hi1 hi2 hi3
  refine brI (fun h2 => ?_) (fun h2 => ?_)
  · have hi : i < l.length := by simp only [decide_eq_true_eq] at h2; omega
    conv => whnf
    refine brI (fun h3 => ?_) (fun h3 => ?_)
    · have h3 : a ≤ 200 := by simp only [decide_eq_true_eq] at h3; omega
      conv => whnf
      refine ⟨⟨by omega, by simp only; omega⟩, fun x hx => ?_⟩
      have hx : l[i]? = some x := by simpa using hx
      have hm := List.mem_of_getElem? hx
      have hc := ih x hm (SmL_mem hs.2.2 x hm) m (by omega)
      have hle := rcE_le x m
      rw [drop_get hx] at hi3
      simp only [rcL] at hi3
      rw [if_pos h3] at hi3
      have hw : IntKind.i64.wrap (((m + 1 : Nat) : Int) - 1) = (m : Int) := by rw [wI (by omega)]; omega
      conv => whnf
      refine ⟨[], .int .i64 (rcE x m : Nat), ?_, ?_⟩
      · show Fn 70 [] [.agg (exC x), .int .i64 (IntKind.i64.wrap (((m + 1 : Nat) : Int) - 1))] _ _
        rw [hw]; exact hc
      conv => whnf
      refine ⟨(i + 1, a + rcE x m), ⟨by simp only; omega, by simp only; omega, hi3⟩, by show l.length - (i + 1) < l.length - i; omega, ?_⟩
      ((conv => whnf); refine And.intro ?_ ?_; repeat' first | refine leL_cons ?_ ?_ | exact leA_any | exact leA_refl rfl | exact leL_nil | refine leH_cons ?_ ?_ | exact leH_nil | exact leB_free | exact leB_dead | refine leB_cells ?_ | exact leB_map rfl | exact leB_gst rfl | exact leA_nil rfl | refine leA_agg ?_ | refine leA_tup ?_ | fail)
      · exact leA_int (by rw [wI (by simp only; omega)]; simp only; omega)
      · exact leA_int (by rw [wI (by simp only; omega)]; simp only; omega)
    · have h3 : 200 < a := by simp only [decide_eq_false_iff_not] at h3; omega
      rw [rcL_stop h3] at hi3
      conv => whnf
      exact ⟨leA_int (by rw [hi3]), leH_nil⟩
  · have hi : ¬ i < l.length := by simp only [decide_eq_false_iff_not] at h2; omega
    rw [List.drop_of_length_le (by omega)] at hi3
    simp only [rcL] at hi3
    conv => whnf
    exact ⟨leA_int (by rw [hi3]), leH_nil⟩
theorem z32 (e : Ex) (hs : Sm e) : Fn 40 [] [.agg (exC e)] (.bool (okT e)) [] := by
  have h59 := z59 e hs 20 (by omega)
  refine fnT hT hmx Tryz.func40 rfl rfl (ex := []) ?_
  conv => whnf
  refine ⟨[], .int .i64 (rcE e 20 : Nat), ?_, ?_⟩
  · cases e; exact h59
  conv => whnf
  exact ⟨leA_bool (rc_okT e), leH_nil⟩
end Go.Proofs.YtnijmbnkcmhfpaaGreatDoor

/-
  The reference: lists of nodes and names; indices.
-/
namespace Go.Proofs.YtnijmbnkcmhfpaaGreatDoor
open Go Go.Sx
set_option maxRecDepth 100000
set_option maxHeartbeats 8000000
theorem y39 (l : List Bytes) (s : Bytes) (hlen : l.length < 9223372036854775808) : Fn 39 [] [.sl .str l, .str s] (.int .i64 (ixP (eqS s) l 0)) [] := by
  refine fnT hT4 hmx Tryz.func39 rfl rfl (ex := []) ?_
  conv => whnf
  refine ⟨Nat, fun i => i ≤ l.length ∧ ixP (eqS s) (l.drop i) i = ixP (eqS s) l 0, fun i => [(5, .int .i64 i)], fun _ => [], fun i => l.length - i, 0, ⟨by simp, rfl⟩, ?_, fun i hi => ?_⟩
  · ((conv => whnf); refine And.intro ?_ ?_; repeat' first | refine leL_cons ?_ ?_ | exact leA_any | exact leA_refl rfl | exact leL_nil | refine leH_cons ?_ ?_ | exact leH_nil | exact leB_free | exact leB_dead | refine leB_cells ?_ | exact leB_map rfl | exact leB_gst rfl | exact leA_nil rfl | refine leA_agg ?_ | refine leA_tup ?_ | fail)
  (refine ⟨by kernel_rfl, ?_⟩; (conv => whnf))
  obtain ⟨hi1, hi2⟩ := hi
  refine brI (fun h1 => ?_) (fun h1 => ?_)
  · conv => whnf
    have hi : i < l.length := by simp only [decide_eq_true_eq] at h1; omega
    refine ⟨⟨by omega, by omega⟩, fun x hx => ?_⟩
    have hx : l[i]? = some x := by simpa using hx
    rw [drop_get hx] at hi2
    simp only [ixP] at hi2
    conv => whnf
    refine brI (fun h2 => ?_) (fun h2 => ?_)
    · conv => whnf
      have h2 : (x == s) = true := h2
      have h2 : eqS s x = true := by simp only [eqS, beq_iff_eq] at h2 ⊢; exact h2.symm
      rw [if_pos h2] at hi2
      exact ⟨leA_int hi2, leH_nil⟩
    · conv => whnf
      have h2 : (x == s) = false := h2
      have h2 : ¬ eqS s x = true := by simp only [eqS, beq_iff_eq, beq_eq_false_iff_ne] at h2 ⊢; exact fun e => h2 e.symm
      rw [if_neg h2] at hi2
      refine ⟨i + 1, ⟨by omega, hi2⟩, by show l.length - (i + 1) < l.length - i; omega, ?_⟩
      ((conv => whnf); refine And.intro ?_ ?_; repeat' first | refine leL_cons ?_ ?_ | exact leA_any | exact leA_refl rfl | exact leL_nil | refine leH_cons ?_ ?_ | exact leH_nil | exact leB_free | exact leB_dead | refine leB_cells ?_ | exact leB_map rfl | exact leB_gst rfl | exact leA_nil rfl | refine leA_agg ?_ | refine leA_tup ?_ | fail)
      exact leA_int (by rw [wI (by omega)]; omega)
  · conv => whnf
    have hi : ¬ i < l.length := by simp only [decide_eq_false_iff_not] at h1; omega
    rw [List.drop_of_length_le (by omega)] at hi2
    exact ⟨leA_int hi2, leH_nil⟩
/-- The first place of an element of a list: before it, if it is there twice. -/
theorem ixP_lt (l : List Bytes) {i : Nat} {x : Bytes} (hx : l[i]? = some x) : ixP (eqS x) l 0 < i ↔ x ∈ l.take i := by
  have key : ∀ (l : List Bytes) (i j : Nat), l[i]? = some x → (ixP (eqS x) l j < (j + i : Nat) ↔ x ∈ l.take i) ∧ (j : Int) ≤ ixP (eqS x) l j := by
    intro l
    induction l with
    | nil => intro i j h; simp at h
    | cons y l ih =>
      intro i j h
      by_cases he : x = y
      · subst he
        have : ixP (eqS x) (x :: l) j = j := by simp [ixP, eqS]
        rw [this]
        refine ⟨?_, Int.le_refl _⟩
        cases i with
        | zero => simp
        | succ i => simp; omega
      · have hne : ¬ eqS x y = true := by simpa [eqS] using he
        simp only [ixP, if_neg hne]
        cases i with
        | zero => exact absurd (by simpa using h) (fun e : y = x => he e.symm)
        | succ i =>
          obtain ⟨h1, h2⟩ := ih i (j + 1) (by simpa using h)
          refine ⟨?_, by omega⟩
          rw [show j + (i + 1) = (j + 1) + i by omega, h1]
          simp [he]
  simpa using (key l i 0 hx).1
theorem take_nodup (l : List Bytes) {i : Nat} {x : Bytes} (hx : l[i]? = some x) : (l.take (i + 1)).Nodup ↔ (l.take i).Nodup ∧ x ∉ l.take i := by
  rw [List.take_add_one, hx]
  simp only [Option.toList_some]
  rw [List.nodup_append]
  constructor
  · rintro ⟨h1, _, h3⟩; exact ⟨h1, fun hm => h3 x hm x (by simp) rfl⟩
  · rintro ⟨h1, h2⟩; exact ⟨h1, by simp, fun a ha b hb e => by simp at hb; subst hb; exact h2 (e ▸ ha)⟩
def nmsB (l : List Bytes) : Bool := decide (l.Nodup ∧ l.length ≤ 200)
theorem y18 (l : List Bytes) (hlen : l.length < 9223372036854775808) : Fn 18 [] [.sl .str l] (.bool (nmsB l)) [] := by
  have h39 := fun s => y39 l s hlen
  refine fnT hT4 hmx Tryz.func18 rfl rfl (ex := []) ?_
  conv => whnf
  refine ⟨Nat, fun i => i ≤ l.length ∧ (l.take i).Nodup, fun i => [(3, .int .i64 i)], fun _ => [], fun i => l.length - i, 0, ⟨by simp, by simp⟩, ?_, fun i hi => ?_⟩
  · ((conv => whnf); refine And.intro ?_ ?_; repeat' first | refine leL_cons ?_ ?_ | exact leA_any | exact leA_refl rfl | exact leL_nil | refine leH_cons ?_ ?_ | exact leH_nil | exact leB_free | exact leB_dead | refine leB_cells ?_ | exact leB_map rfl | exact leB_gst rfl | exact leA_nil rfl | refine leA_agg ?_ | refine leA_tup ?_ | fail)
  (refine ⟨by kernel_rfl, ?_⟩; (conv => whnf))
  obtain ⟨hi1, hi2⟩ := hi
  refine brI (fun h1 => ?_) (fun h1 => ?_)
  · conv => whnf
    have hi : i < l.length := by simp only [decide_eq_true_eq] at h1; omega
    refine ⟨⟨by omega, by omega⟩, fun x hx => ?_⟩
    have hx : l[i]? = some x := by simpa using hx
    conv => whnf
    refine ⟨[], _, h39 x, ?_⟩
    conv => whnf
    refine brI (fun h2 => ?_) (fun h2 => ?_)
    · have h2 := (ixP_lt l hx).1 (of_decide_eq_true h2)
      conv => whnf
      refine ⟨leA_bool (Eq.symm (decide_eq_false fun hh => ?_)), leH_nil⟩
      have := (take_nodup l hx).1 (hh.1.sublist (List.take_sublist _ _))
      exact this.2 h2
    · have h2 := fun hm => of_decide_eq_false h2 ((ixP_lt l hx).2 hm)
      conv => whnf
      refine ⟨i + 1, ⟨by omega, (take_nodup l hx).2 ⟨hi2, h2⟩⟩, by show l.length - (i + 1) < l.length - i; omega, ?_⟩
      ((conv => whnf); refine And.intro ?_ ?_; repeat' first | refine leL_cons ?_ ?_ | exact leA_any | exact leA_refl rfl | exact leL_nil | refine leH_cons ?_ ?_ | exact leH_nil | exact leB_free | exact leB_dead | refine leB_cells ?_ | exact leB_map rfl | exact leB_gst rfl | exact leA_nil rfl | refine leA_agg ?_ | refine leA_tup ?_ | fail)
      exact leA_int (by rw [wI (by omega)]; omega)
  · conv => whnf
    have hi : ¬ i < l.length := by simp only [decide_eq_false_iff_not] at h1; omega
    rw [List.take_of_length_le (by omega)] at hi2
    exact ⟨leA_bool (by unfold nmsB; rw [Bool.eq_iff_iff, decide_eq_true_eq, decide_eq_true_eq]; simp only [hi2, true_and]; omega), leH_nil⟩
theorem sizL_mem {l : List Ex} {x : Ex} (h : x ∈ l) : sizE x ≤ sizL l := by
  induction l with
  | nil => cases h
  | cons y l ih =>
    simp only [sizL]
    rcases List.mem_cons.1 h with rfl | h
    · omega
    · have := ih h; omega
noncomputable def body42 : Code := Tryz.f42.body.getD .skip
theorem y42 : ∀ (e : Ex), sizE e ≤ 1000 → Fn 42 [] [.agg (exC e)] (.sl .ex (preE e)) [] := by
  refine exInd fun k q s p l ih hs => ?_
  have hs1 : sizL l < 1000 := by simp only [sizE] at hs; omega
  show Fn 42 [] [.agg [.int .i64 k, .int .i64 q.n, .int .i64 q.d, .str s, .int .i64 p, .sl .ex l]] _ []
  obtain ⟨A, hA⟩ : ∃ A, preE (.mk k q s p l) = A := ⟨_, rfl⟩
  have hAl : A.length ≤ 1000 := by rw [← hA, preE_len]; exact hs
  have hll : l.length ≤ 1000 := by
    have : ∀ l : List Ex, l.length ≤ sizL l := by
      intro l
      induction l with
      | nil => simp
      | cons x l ih => cases x; simp only [sizL, sizE, List.length_cons]; omega
    have := this l; omega
  rw [hA]
  refine fnC_sound (code := body42) hT4 hmx Tryz.func42 rfl rfl (ex := []) ?_
  conv => whnf
  refine sem_end4 hT4 hmx [1] ?_
  conv => whnf
  refine tri_lit hT4 1 21 ?_
  conv => whnf
  refine ⟨Nat × List Ex, fun x => x.1 ≤ l.length ∧ x.2 ++ preL (l.drop x.1) = A, fun x => [(4, .int .i64 x.1), (3, .own 21), (6, .any)], fun x => [(21, .buf 26 .ex x.2)], fun x => l.length - x.1, (0, [.mk k q s p l]), ⟨by simp, by rw [← hA]; simp [preE]⟩, ?_, fun x hx => ?_⟩
  · ((conv => whnf); refine And.intro ?_ ?_; repeat' first | refine leL_cons ?_ ?_ | exact leA_any | exact leA_refl rfl | exact leL_nil | refine leH_cons ?_ ?_ | exact leH_nil | exact leB_free | exact leB_dead | refine leB_cells ?_ | exact leB_map rfl | exact leB_buf rfl | exact leB_gst rfl | exact leA_nil rfl | refine leA_agg ?_ | refine leA_tup ?_ | fail)
  (refine ⟨by kernel_rfl, ?_⟩; (conv => whnf))
  obtain ⟨i, out⟩ := x
  obtain ⟨hi1, hi2⟩ := hx
  simp only at hi1 hi2
  refine brI (fun h1 => ?_) (fun h1 => ?_)
  · conv => whnf
    have hi : i < l.length := by simp only [decide_eq_true_eq] at h1; omega
    refine ⟨⟨by omega, by simp only; omega⟩, fun x hx => ?_⟩
    have hx : l[i]? = some x := by simpa using hx
    have hm := List.mem_of_getElem? hx
    have hsx := sizL_mem hm
    have h42 := ih x hm (by omega)
    rw [drop_get hx] at hi2
    simp only [preL] at hi2
    have hl2 := congrArg List.length hi2
    simp only [List.length_append] at hl2
    conv => whnf
    refine ⟨[], _, h42, ?_⟩
    conv => whnf
    refine ⟨by simp only; omega, ?_⟩
    conv => whnf
    refine ⟨(i + 1, out ++ preE x), ⟨by simp only; omega, by simp only [List.append_assoc]; exact hi2⟩, by show l.length - (i + 1) < l.length - i; omega, ?_⟩
    ((conv => whnf); refine And.intro ?_ ?_; repeat' first | refine leL_cons ?_ ?_ | exact leA_any | exact leA_refl rfl | exact leL_nil | refine leH_cons ?_ ?_ | exact leH_nil | exact leB_free | exact leB_dead | refine leB_cells ?_ | exact leB_map rfl | exact leB_buf rfl | exact leB_gst rfl | exact leA_nil rfl | refine leA_agg ?_ | refine leA_tup ?_ | fail)
    exact leA_int (by rw [wI (by simp only; omega)]; simp only; omega)
  · conv => whnf
    have hi : ¬ i < l.length := by simp only [decide_eq_false_iff_not] at h1; omega
    rw [List.drop_of_length_le (by omega)] at hi2
    simp only [preL, List.append_nil] at hi2
    exact ⟨leA_sl hi2, leH_nil⟩
end Go.Proofs.YtnijmbnkcmhfpaaGreatDoor

/-
  The reference: sorted lists of names; known names; rational trees.
-/
namespace Go.Proofs.YtnijmbnkcmhfpaaGreatDoor
open Go Go.Sx
set_option maxRecDepth 100000
set_option maxHeartbeats 8000000
def insS (s : Bytes) : List Bytes → List Bytes
  | [] => [s]
  | x :: l => if Op.bytesLess x s = true then x :: insS s l else if x = s then x :: l else s :: x :: l
theorem mem_insS (s : Bytes) : ∀ (l : List Bytes) (y : Bytes), y ∈ insS s l ↔ y = s ∨ y ∈ l
  | [], y => by simp [insS]
  | x :: l, y => by
    have ih := mem_insS s l y
    simp only [insS]
    split
    · simp only [List.mem_cons, ih]; constructor <;> rintro (h | h | h) <;> simp [h]
    · split
      · rename_i h; subst h; simp
      · simp
theorem insS_len (s : Bytes) : ∀ l : List Bytes, (insS s l).length ≤ l.length + 1
  | [] => by simp [insS]
  | x :: l => by
    have ih := insS_len s l
    simp only [insS]
    split
    · simp only [List.length_cons]; omega
    · split <;> simp
theorem y71 (l : List Bytes) (s : Bytes) (hl : l.length ≤ 1000) : Fn 71 [] [.sl .str l, .str s] (.sl .str (insS s l)) [] := by
  obtain ⟨A, hA⟩ : ∃ A, insS s l = A := ⟨_, rfl⟩
  rw [hA]
  refine fnT hT4 hmx Tryz.func71 rfl rfl (ex := []) ?_
  conv => whnf
  refine ⟨Nat, fun i => i ≤ l.length ∧ l.take i ++ insS s (l.drop i) = A, fun i => [(5, .int .i64 i)], fun _ => [], fun i => l.length - i, 0, ⟨by simp, by simpa using hA⟩, ?_, fun i hi => ?_⟩
  · ((conv => whnf); refine And.intro ?_ ?_; repeat' first | refine leL_cons ?_ ?_ | exact leA_any | exact leA_refl rfl | exact leL_nil | refine leH_cons ?_ ?_ | exact leH_nil | exact leB_free | exact leB_dead | refine leB_cells ?_ | exact leB_map rfl | exact leB_gst rfl | exact leA_nil rfl | refine leA_agg ?_ | refine leA_tup ?_ | fail)
  (refine ⟨by kernel_rfl, ?_⟩; (conv => whnf))
  obtain ⟨hi1, hi2⟩ := hi
  refine brI (fun h1 => ?_) (fun h1 => ?_)
  · have hi : i < l.length := by simp only [decide_eq_true_eq] at h1; omega
    conv => whnf
    refine ⟨⟨by omega, by omega⟩, fun x hx => ?_⟩
    have hx : l[i]? = some x := by simpa using hx
    have hd := drop_get hx
    rw [hd] at hi2
    simp only [insS] at hi2
    conv => whnf
    refine brI (fun h2 => ?_) (fun h2 => ?_)
    · have h2 : Op.bytesLess x s = true := h2
      rw [if_pos h2] at hi2
      conv => whnf
      refine ⟨i + 1, ⟨by omega, by rw [List.take_add_one, hx]; simpa using hi2⟩, by show l.length - (i + 1) < l.length - i; omega, ?_⟩
      ((conv => whnf); refine And.intro ?_ ?_; repeat' first | refine leL_cons ?_ ?_ | exact leA_any | exact leA_refl rfl | exact leL_nil | refine leH_cons ?_ ?_ | exact leH_nil | exact leB_free | exact leB_dead | refine leB_cells ?_ | exact leB_map rfl | exact leB_gst rfl | exact leA_nil rfl | refine leA_agg ?_ | refine leA_tup ?_ | fail)
      exact leA_int (by rw [wI (by omega)]; omega)
    · have h2 : Op.bytesLess x s = false := h2
      rw [if_neg (by rw [h2]; simp)] at hi2
      conv => whnf
      refine brI (fun _ => ?_) (fun h3 => absurd hi (by simp only [decide_eq_false_iff_not] at h3; omega))
      conv => whnf
      refine ⟨⟨by omega, by omega⟩, fun x' hx' => ?_⟩
      have hx' : l[i]? = some x' := by simpa using hx'
      obtain rfl : x = x' := by rw [hx] at hx'; exact Option.some.inj hx'
      conv => whnf
      refine brI (fun h3 => ?_) (fun h3 => ?_)
      · have h3 : (x == s) = true := h3
        have h3 : x = s := by simpa using h3
        rw [if_pos h3, ← hd, List.take_append_drop] at hi2
        conv => whnf
        exact ⟨leA_sl hi2, leH_nil⟩
      · have h3 : (x == s) = false := h3
        have h3 : ¬ x = s := by simpa using h3
        rw [if_neg h3, ← hd] at hi2
        conv => whnf
        refine ⟨⟨by omega, by omega, by omega⟩, ?_⟩
        conv => whnf
        refine ⟨by simp; omega, ?_⟩
        conv => whnf
        refine ⟨by simp; omega, ?_⟩
        conv => whnf
        refine ⟨⟨by omega, by omega, by omega⟩, ?_⟩
        conv => whnf
        refine ⟨by simp; omega, ?_⟩
        conv => whnf
        exact ⟨leA_sl (by rw [← hi2]; simp), leH_nil⟩
  · have hi : ¬ i < l.length := by simp only [decide_eq_false_iff_not] at h1; omega
    obtain rfl : i = l.length := by omega
    have hA2 : A = l ++ [s] := by rw [← hi2]; simp [insS]
    conv => whnf
    refine brI (fun h3 => absurd (of_decide_eq_true h3) (by omega)) (fun _ => ?_)
    conv => whnf
    refine ⟨⟨by omega, by omega, by omega⟩, ?_⟩
    conv => whnf
    refine ⟨by simp; omega, ?_⟩
    conv => whnf
    refine ⟨by simp; omega, ?_⟩
    conv => whnf
    refine ⟨⟨by omega, by omega, by omega⟩, ?_⟩
    conv => whnf
    refine ⟨by simp; omega, ?_⟩
    conv => whnf
    exact ⟨leA_sl (by rw [hA2]; simp), leH_nil⟩
/-- The names of a list of nodes, put into a list one by one. -/
def nmR : List Ex → List Bytes → List Bytes
  | [], acc => acc
  | y :: l, acc => if y.k = 2 then nmR l (insS y.s acc) else nmR l acc
theorem mem_nmR : ∀ (l : List Ex) (acc : List Bytes) (s : Bytes), s ∈ nmR l acc ↔ s ∈ acc ∨ ∃ y ∈ l, y.k = 2 ∧ y.s = s
  | [], acc, s => by simp [nmR]
  | y :: l, acc, s => by
    simp only [nmR]
    split
    · rename_i h
      rw [mem_nmR l _ s, mem_insS]
      constructor
      · rintro ((h1 | h1) | ⟨z, h1, h2, h3⟩)
        · exact .inr ⟨y, List.mem_cons_self, h, h1.symm⟩
        · exact .inl h1
        · exact .inr ⟨z, List.mem_cons_of_mem _ h1, h2, h3⟩
      · rintro (h1 | ⟨z, h1, h2, h3⟩)
        · exact .inl (.inr h1)
        · rcases List.mem_cons.1 h1 with rfl | h1
          · exact .inl (.inl h3.symm)
          · exact .inr ⟨z, h1, h2, h3⟩
    · rename_i h
      rw [mem_nmR l _ s]
      constructor
      · rintro (h1 | ⟨z, h1, h2, h3⟩)
        · exact .inl h1
        · exact .inr ⟨z, List.mem_cons_of_mem _ h1, h2, h3⟩
      · rintro (h1 | ⟨z, h1, h2, h3⟩)
        · exact .inl h1
        · rcases List.mem_cons.1 h1 with rfl | h1
          · exact absurd h2 h
          · exact .inr ⟨z, h1, h2, h3⟩
theorem nmR_len : ∀ (l : List Ex) (acc : List Bytes), (nmR l acc).length ≤ acc.length + l.length
  | [], acc => by simp [nmR]
  | y :: l, acc => by
    have h1 := nmR_len l (insS y.s acc)
    have h2 := nmR_len l acc
    have h3 := insS_len y.s acc
    simp only [nmR, List.length_cons]
    split <;> omega
theorem y41 (e : Ex) (he : sizE e ≤ 500) : Fn 41 [] [.agg (exC e)] (.sl .str (nmR (preE e) [])) [] := by
  have h42 := y42 e (by omega)
  have hl : (preE e).length ≤ 500 := by rw [preE_len]; exact he
  generalize preE e = l at h42 hl
  cases e
  refine fnT hT4 hmx Tryz.func41 rfl rfl (ex := []) ?_
  conv => whnf
  refine ⟨[], _, h42, ?_⟩
  conv => whnf
  refine ⟨Nat × List Bytes, fun x => x.1 ≤ l.length ∧ nmR (l.drop x.1) x.2 = nmR l [] ∧ x.2.length ≤ x.1, fun x => [(5, .int .i64 x.1), (3, .sl .str x.2)], fun _ => [], fun x => l.length - x.1, (0, []), ⟨by simp, by simp, by simp⟩, ?_, fun x hx => ?_⟩
  · ((conv => whnf); refine And.intro ?_ ?_; repeat' first | refine leL_cons ?_ ?_ | exact leA_any | exact leA_refl rfl | exact leL_nil | refine leH_cons ?_ ?_ | exact leH_nil | exact leB_free | exact leB_dead | refine leB_cells ?_ | exact leB_map rfl | exact leB_gst rfl | exact leA_nil rfl | refine leA_agg ?_ | refine leA_tup ?_ | fail)
  (refine ⟨by kernel_rfl, ?_⟩; (conv => whnf))
  obtain ⟨i, acc⟩ := x
  obtain ⟨hi1, hi2, hi3⟩ := hx
  simp only at hi1 hi2 hi3
  refine brI (fun h1 => ?_) (fun h1 => ?_)
  · have hi : i < l.length := by simp only [decide_eq_true_eq] at h1; omega
    conv => whnf
    refine ⟨⟨by omega, by simp only; omega⟩, fun (x : Ex) hx => ?_⟩
    have hx : l[i]? = some x := by simpa using hx
    rw [drop_get hx] at hi2
    simp only [nmR] at hi2
    conv => whnf
    refine brI (fun h2 => ?_) (fun h2 => ?_)
    · have h2 : (x.k == 2) = true := h2
      have h2 : x.k = 2 := by simpa using h2
      rw [if_pos h2] at hi2
      have h71 := y71 acc x.s (by omega)
      have h3 := insS_len x.s acc
      conv => whnf
      refine ⟨⟨by omega, by simp only; omega⟩, fun (x' : Ex) hx' => ?_⟩
      have hx' : l[i]? = some x' := by simpa using hx'
      obtain rfl : x = x' := by rw [hx] at hx'; exact Option.some.inj hx'
      conv => whnf
      refine ⟨[], _, h71, ?_⟩
      conv => whnf
      refine ⟨(i + 1, insS x.s acc), ⟨by simp only; omega, hi2, by simp only; omega⟩, by show l.length - (i + 1) < l.length - i; omega, ?_⟩
      ((conv => whnf); refine And.intro ?_ ?_; repeat' first | refine leL_cons ?_ ?_ | exact leA_any | exact leA_refl rfl | exact leL_nil | refine leH_cons ?_ ?_ | exact leH_nil | exact leB_free | exact leB_dead | refine leB_cells ?_ | exact leB_map rfl | exact leB_gst rfl | exact leA_nil rfl | refine leA_agg ?_ | refine leA_tup ?_ | fail)
      exact leA_int (by rw [wI (by simp only; omega)]; simp only; omega)
    · have h2 : (x.k == 2) = false := h2
      have h2 : ¬ x.k = 2 := by simpa using h2
      rw [if_neg h2] at hi2
      conv => whnf
      refine ⟨(i + 1, acc), ⟨by simp only; omega, hi2, by simp only; omega⟩, by show l.length - (i + 1) < l.length - i; omega, ?_⟩
      ((conv => whnf); refine And.intro ?_ ?_; repeat' first | refine leL_cons ?_ ?_ | exact leA_any | exact leA_refl rfl | exact leL_nil | refine leH_cons ?_ ?_ | exact leH_nil | exact leB_free | exact leB_dead | refine leB_cells ?_ | exact leB_map rfl | exact leB_gst rfl | exact leA_nil rfl | refine leA_agg ?_ | refine leA_tup ?_ | fail)
      exact leA_int (by rw [wI (by simp only; omega)]; simp only; omega)
  · have hi : ¬ i < l.length := by simp only [decide_eq_false_iff_not] at h1; omega
    rw [List.drop_of_length_le (by omega)] at hi2
    conv => whnf
    exact ⟨leA_sl hi2, leH_nil⟩
theorem y20 (e : Ex) (he : sizE e ≤ 500) : Fn 20 [] [.agg (exC e)] (.bool ((preE e).all fun y => decide (y.k < 9))) [] := by
  have h42 := y42 e (by omega)
  have hl : (preE e).length ≤ 500 := by rw [preE_len]; exact he
  generalize preE e = l at h42 hl
  cases e
  refine fnT hT4 hmx Tryz.func20 rfl rfl (ex := []) ?_
  conv => whnf
  refine ⟨[], _, h42, ?_⟩
  conv => whnf
  refine ⟨Nat, fun i => i ≤ l.length ∧ ((l.drop i).all fun y => decide (y.k < 9)) = l.all fun y => decide (y.k < 9), fun i => [(4, .int .i64 i)], fun _ => [], fun i => l.length - i, 0, ⟨by simp, by simp⟩, ?_, fun i hi => ?_⟩
  · ((conv => whnf); refine And.intro ?_ ?_; repeat' first | refine leL_cons ?_ ?_ | exact leA_any | exact leA_refl rfl | exact leL_nil | refine leH_cons ?_ ?_ | exact leH_nil | exact leB_free | exact leB_dead | refine leB_cells ?_ | exact leB_map rfl | exact leB_gst rfl | exact leA_nil rfl | refine leA_agg ?_ | refine leA_tup ?_ | fail)
  (refine ⟨by kernel_rfl, ?_⟩; (conv => whnf))
  obtain ⟨hi1, hi2⟩ := hi
  refine brI (fun h1 => ?_) (fun h1 => ?_)
  · have hi : i < l.length := by simp only [decide_eq_true_eq] at h1; omega
    conv => whnf
    refine ⟨⟨by omega, by omega⟩, fun (x : Ex) hx => ?_⟩
    have hx : l[i]? = some x := by simpa using hx
    rw [drop_get hx, List.all_cons] at hi2
    conv => whnf
    refine brI (fun h2 => ?_) (fun h2 => ?_)
    · have h2 : 8 < x.k := of_decide_eq_true h2
      conv => whnf
      exact ⟨leA_bool (by rw [← hi2, decide_eq_false (show ¬ x.k < 9 by omega)]; rfl), leH_nil⟩
    · have h2 : ¬ 8 < x.k := of_decide_eq_false h2
      rw [decide_eq_true (show x.k < 9 by omega)] at hi2
      conv => whnf
      refine ⟨i + 1, ⟨by omega, by simpa using hi2⟩, by show l.length - (i + 1) < l.length - i; omega, ?_⟩
      ((conv => whnf); refine And.intro ?_ ?_; repeat' first | refine leL_cons ?_ ?_ | exact leA_any | exact leA_refl rfl | exact leL_nil | refine leH_cons ?_ ?_ | exact leH_nil | exact leB_free | exact leB_dead | refine leB_cells ?_ | exact leB_map rfl | exact leB_gst rfl | exact leA_nil rfl | refine leA_agg ?_ | refine leA_tup ?_ | fail)
      exact leA_int (by rw [wI (by omega)]; omega)
  · have hi : ¬ i < l.length := by simp only [decide_eq_false_iff_not] at h1; omega
    rw [List.drop_of_length_le (by omega)] at hi2
    conv => whnf
    exact ⟨leA_bool hi2, leH_nil⟩
/-- All variables of a valid tree are in a list. -/
def knB (e : Ex) (ns : List Bytes) : Bool := okT e && decide (∀ y ∈ preE e, y.k = 2 → y.s ∈ ns)
theorem ixP_neg (s : Bytes) (l : List Bytes) : ixP (eqS s) l 0 < 0 ↔ s ∉ l := by
  have h := ixP_iff (eqS s) l 0
  have h2 : l.any (eqS s) = true ↔ s ∈ l := by
    rw [List.any_eq_true]
    constructor
    · rintro ⟨x, h1, h2⟩; have : s = x := by simpa [eqS] using h2
      rw [this]; exact h1
    · intro h; exact ⟨s, h, by simp [eqS]⟩
  rw [← h2, ← h]; omega
theorem sz_ok {e : Ex} (h : okT e = true) : sizE e ≤ 200 := by
  rw [okT_iff] at h; exact h.2.2
theorem y19 (e : Ex) (ns : List Bytes) (he : Sm e) (hn : ns.length < 9223372036854775808) : Fn 19 [] [.agg (exC e), .sl .str ns] (.bool (knB e ns)) [] := by
  have h40 := z32 e he
  unfold knB
  cases hok : okT e with
  | false =>
    rw [hok] at h40
    cases e
    refine fnT hT4 hmx Tryz.func19 rfl rfl (ex := []) ?_
    conv => whnf
    refine ⟨[], _, h40, ?_⟩
    conv => whnf
    exact ⟨leA_refl rfl, leH_nil⟩
  | true =>
    rw [hok] at h40
    have hsz := sz_ok hok
    have h41 := y41 e (by omega)
    have hmem := mem_nmR (preE e) []
    have hlen := nmR_len (preE e) []
    rw [preE_len] at hlen
    generalize nmR (preE e) [] = l at h41 hmem hlen
    have hA : (decide (∀ y ∈ preE e, y.k = 2 → y.s ∈ ns)) = l.all fun s => decide (s ∈ ns) := by
      rw [Bool.eq_iff_iff, decide_eq_true_eq, List.all_eq_true]
      constructor
      · intro h s hs
        obtain h1 | ⟨y, h1, h2, rfl⟩ := (hmem s).1 hs
        · cases h1
        · exact decide_eq_true (h y h1 h2)
      · intro h y hy hk
        exact of_decide_eq_true (h y.s ((hmem y.s).2 (.inr ⟨y, hy, hk, rfl⟩)))
    rw [hA]
    have hlen : l.length ≤ 200 := by simpa using Nat.le_trans hlen (by simpa using hsz)
    clear hmem hA
    cases e
    refine fnT hT4 hmx Tryz.func19 rfl rfl (ex := []) ?_
    conv => whnf
    refine ⟨[], _, h40, ?_⟩
    conv => whnf
    refine ⟨[], _, h41, ?_⟩
    conv => whnf
    refine ⟨Nat, fun i => i ≤ l.length ∧ ((l.drop i).all fun s => decide (s ∈ ns)) = l.all fun s => decide (s ∈ ns), fun i => [(6, .int .i64 i)], fun _ => [], fun i => l.length - i, 0, ⟨by simp, by simp⟩, ?_, fun i hi => ?_⟩
    · ((conv => whnf); refine And.intro ?_ ?_; repeat' first | refine leL_cons ?_ ?_ | exact leA_any | exact leA_refl rfl | exact leL_nil | refine leH_cons ?_ ?_ | exact leH_nil | exact leB_free | exact leB_dead | refine leB_cells ?_ | exact leB_map rfl | exact leB_gst rfl | exact leA_nil rfl | refine leA_agg ?_ | refine leA_tup ?_ | fail)
    (refine ⟨by kernel_rfl, ?_⟩; (conv => whnf))
    obtain ⟨hi1, hi2⟩ := hi
    refine brI (fun h1 => ?_) (fun h1 => ?_)
    · have hi : i < l.length := by simp only [decide_eq_true_eq] at h1; omega
      conv => whnf
      refine ⟨⟨by omega, by omega⟩, fun x hx => ?_⟩
      have hx : l[i]? = some x := by simpa using hx
      rw [drop_get hx, List.all_cons] at hi2
      conv => whnf
      refine ⟨[], _, y39 ns x hn, ?_⟩
      conv => whnf
      refine brI (fun h2 => ?_) (fun h2 => ?_)
      · have h2 := (ixP_neg x ns).1 (of_decide_eq_true h2)
        conv => whnf
        exact ⟨leA_bool (by rw [← hi2, decide_eq_false h2]; rfl), leH_nil⟩
      · have h2 : x ∈ ns := Classical.byContradiction fun hc => of_decide_eq_false h2 ((ixP_neg x ns).2 hc)
        rw [decide_eq_true h2] at hi2
        conv => whnf
        refine ⟨i + 1, ⟨by omega, by simpa using hi2⟩, by show l.length - (i + 1) < l.length - i; omega, ?_⟩
        ((conv => whnf); refine And.intro ?_ ?_; repeat' first | refine leL_cons ?_ ?_ | exact leA_any | exact leA_refl rfl | exact leL_nil | refine leH_cons ?_ ?_ | exact leH_nil | exact leB_free | exact leB_dead | refine leB_cells ?_ | exact leB_map rfl | exact leB_gst rfl | exact leA_nil rfl | refine leA_agg ?_ | refine leA_tup ?_ | fail)
        exact leA_int (by rw [wI (by omega)]; omega)
    · have hi : ¬ i < l.length := by simp only [decide_eq_false_iff_not] at h1; omega
      rw [List.drop_of_length_le (by omega)] at hi2
      conv => whnf
      exact ⟨leA_bool hi2, leH_nil⟩
end Go.Proofs.YtnijmbnkcmhfpaaGreatDoor
