/-
  Seat .Z: the reference's names.
-/
import Derived.Test.YtnijmbnkcmhfpaaGreatDoorQUb
import Derived.Test.YtnijmbnkcmhfpaaGreatDoorQCk
set_option linter.unusedVariables false
set_option linter.unusedSimpArgs false
namespace Go.Proofs.YtnijmbnkcmhfpaaGreatDoor
open Go Go.Sx
set_option maxRecDepth 100000
set_option maxHeartbeats 8000000
def ltB (c : Int) : Bool := decide (97 ≤ c ∧ c ≤ 122) || decide (65 ≤ c ∧ c ≤ 90)
def dgtB (c : Int) : Bool := decide (48 ≤ c ∧ c ≤ 57)
def rnB (c : Int) : Bool := ltB c || dgtB c || decide (c = 95) || decide (c = 46)
theorem z115 (c : Int) : Fn 274 [] [.int .u8 c] (.bool (ltB c)) [] := by
  refine fnT hT hmx Tryz.func274 rfl rfl (ex := []) ?_
  conv => whnf
  repeat' first
    | (refine brI (fun h => ?_) (fun h => ?_) <;> (conv => whnf))
    | refine And.intro (leA_bool ?_) leH_nil
  all_goals (simp only [decide_eq_true_eq, decide_eq_false_iff_not] at *; unfold ltB; rw [Bool.eq_iff_iff]; simp; omega)
theorem z116 (c : Int) : Fn 275 [] [.int .u8 c] (.bool (dgtB c)) [] := by
  refine fnT hT hmx Tryz.func275 rfl rfl (ex := []) ?_
  conv => whnf
  repeat' first
    | (refine brI (fun h => ?_) (fun h => ?_) <;> (conv => whnf))
    | refine And.intro (leA_bool ?_) leH_nil
  all_goals (simp only [decide_eq_true_eq, decide_eq_false_iff_not] at *; unfold dgtB; rw [Bool.eq_iff_iff]; simp; omega)
theorem z114 (c : Int) : Fn 273 [] [.int .u8 c] (.bool (rnB c)) [] := by
  refine fnT hT hmx Tryz.func273 rfl rfl (ex := []) ?_
  conv => whnf
  refine cbI [] (ltB c) (z115 c) (fun h1 => ?_) (fun h1 => ?_)
  · conv => whnf
    exact ⟨leA_bool (by simp [rnB, h1]), leH_nil⟩
  conv => whnf
  refine cbI [] (dgtB c) (z116 c) (fun h2 => ?_) (fun h2 => ?_)
  · conv => whnf
    exact ⟨leA_bool (by simp [rnB, h2]), leH_nil⟩
  conv => whnf
  refine brI (fun h3 => ?_) (fun h3 => ?_)
  · conv => whnf
    exact ⟨leA_bool (by simp only [decide_eq_true_eq, beq_iff_eq] at h3; simp [rnB, h3]), leH_nil⟩
  · conv => whnf
    exact ⟨leA_bool (by simp only [decide_eq_false_iff_not, beq_eq_false_iff_ne, ne_eq] at h3; unfold rnB; rw [h1, h2, Bool.eq_iff_iff]; simp [h3]), leH_nil⟩
theorem ch_iff (c : UInt8) : chB c = (!(decide ((c.toNat : Int) = 46)) && rnB c.toNat) := by
  unfold chB cls rnB ltB dgtB
  rw [Bool.eq_iff_iff]
  simp only [Bool.or_eq_true, Bool.and_eq_true, Bool.not_eq_true', decide_eq_true_eq, decide_eq_false_iff_not]
  repeat' split
  all_goals omega
theorem lt_iff (c : UInt8) : decide (cls c.toNat = 2) = ltB c.toNat := by
  unfold cls ltB
  rw [Bool.eq_iff_iff]
  simp only [Bool.or_eq_true, decide_eq_true_eq]
  repeat' split
  all_goals omega
theorem wordB_eq (s : Bytes) : wordB s = (s.all chB && match s with | [] => false | c :: _ => ltB c.toNat) := by
  cases s with
  | nil => simp [wordB]
  | cons c s =>
    simp only [wordB, List.all_cons, lt_iff]
    cases h : ltB c.toNat with
    | false => simp
    | true =>
      have h2 : decide (cls c.toNat = 2) = true := by rw [lt_iff]; exact h
      simp [chB, h2]
theorem z101 (s : Bytes) (hs : s.length < 9223372036854775808) : Fn 250 [] [.str s] (.bool (wordB s)) [] := by
  rw [wordB_eq]
  refine fnT hT hmx Tryz.func250 rfl rfl (ex := []) ?_
  conv => whnf
  refine ⟨Nat, fun i => i ≤ s.length ∧ (s.drop i).all chB = s.all chB, fun i => [(3, .int .i64 i)], fun _ => [], fun i => s.length - i, 0, ⟨by simp, by simp⟩, ?_, fun i hi => ?_⟩
  · ((conv => whnf); refine And.intro ?_ ?_; repeat' first | refine leL_cons ?_ ?_ | exact leA_any | exact leA_refl rfl | exact leL_nil | refine leH_cons ?_ ?_ | exact leH_nil | exact leB_free | exact leB_dead | refine leB_cells ?_ | exact leB_map rfl | exact leB_gst rfl | exact leA_nil rfl | refine leA_agg ?_ | refine leA_tup ?_ | fail)
  (refine ⟨by kernel_rfl, ?_⟩; (conv => whnf))
  obtain ⟨hi1, hi2⟩ := hi
  refine brI (fun h1 => ?_) (fun h1 => ?_)
  · conv => whnf
    have hi : i < s.length := by simp only [decide_eq_true_eq] at h1; omega
    refine ⟨⟨by omega, by omega⟩, fun c hc => ?_⟩
    have hc : s[(i : Int).toNat]? = some c := hc
    have hc : s[i]? = some c := by simpa using hc
    obtain ⟨hl, hg⟩ := List.getElem?_eq_some_iff.1 hc
    have hd : s.drop i = c :: s.drop (i + 1) := by rw [← hg]; exact List.drop_eq_getElem_cons hl
    rw [hd, List.all_cons, ch_iff] at hi2
    conv => whnf
    refine brI (fun h2 => ?_) (fun h2 => ?_)
    · have h2 : (c.toNat : Int) = 46 := by simpa using h2
      conv => whnf
      refine ⟨leA_bool ?_, leH_nil⟩
      rw [decide_eq_true h2] at hi2
      rw [← hi2]; rfl
    have h2 : ¬ (c.toNat : Int) = 46 := by simpa using h2
    rw [decide_eq_false h2] at hi2
    conv => whnf
    refine ⟨⟨by omega, by omega⟩, fun c' hc' => ?_⟩
    have hc' : s[(i : Int).toNat]? = some c' := hc'
    have hc' : s[i]? = some c' := by simpa using hc'
    rw [hc] at hc'; cases hc'
    conv => whnf
    refine cbI [] (rnB c.toNat) (z114 c.toNat) (fun h3 => ?_) (fun h3 => ?_)
    · conv => whnf
      rw [h3] at hi2
      refine ⟨i + 1, ⟨by omega, by simpa using hi2⟩, by show s.length - (i + 1) < s.length - i; omega, ?_⟩
      ((conv => whnf); refine And.intro ?_ ?_; repeat' first | refine leL_cons ?_ ?_ | exact leA_any | exact leA_refl rfl | exact leL_nil | refine leH_cons ?_ ?_ | exact leH_nil | exact leB_free | exact leB_dead | refine leB_cells ?_ | exact leB_map rfl | exact leB_gst rfl | exact leA_nil rfl | refine leA_agg ?_ | refine leA_tup ?_ | fail)
      exact leA_int (by rw [wI (by omega)]; omega)
    · conv => whnf
      refine ⟨leA_bool ?_, leH_nil⟩
      rw [h3] at hi2
      rw [← hi2]; rfl
  have hi : ¬ i < s.length := by simp only [decide_eq_false_iff_not] at h1; omega
  rw [List.drop_of_length_le (by omega)] at hi2
  rw [← hi2]
  conv => whnf
  match s, hs with
  | [], _ =>
    conv => whnf
    exact ⟨leA_bool rfl, leH_nil⟩
  | c :: s, _ =>
    conv => whnf
    refine ⟨⟨by omega, by simp⟩, fun c' hc' => ?_⟩
    obtain rfl : c = c' := by simpa using hc'
    conv => whnf
    refine ⟨[], _, z115 c.toNat, ?_⟩
    conv => whnf
    exact ⟨leA_bool (by simp), leH_nil⟩
/-- Digits and points. -/
def nuF : Bytes → Nat → Nat → Option (Nat × Nat)
  | [], a, b => some (a, b)
  | c :: s, a, b => if (c.toNat : Int) = 46 then nuF s (a + 1) b else if dgtB c.toNat = true then nuF s a (b + 1) else none
def lst : Bytes → UInt8
  | [] => 0
  | [c] => c
  | _ :: s => lst s
def nuR (s : Bytes) : Int × Bool := match nuF s 0 0 with
  | none => (0, false)
  | some (a, b) => if 1 < a ∨ s = [] ∨ ((s.headD 0).toNat : Int) = 46 ∨ (((s.getLast?).getD 0).toNat : Int) = 46 then (0, false) else (b, true)
theorem z102 (s : Bytes) (hs : s.length < 9223372036854775808) : Fn 251 [] [.str s] (.tup [.int .i64 (nuR s).1, .bool (nuR s).2]) [] := by
  obtain ⟨A, hA⟩ : ∃ A, nuR s = A := ⟨_, rfl⟩
  rw [hA]
  unfold nuR at hA
  refine fnT hT hmx Tryz.func251 rfl rfl (ex := []) ?_
  conv => whnf
  refine ⟨Nat × Nat × Nat, fun x => x.1 ≤ s.length ∧ x.2.1 ≤ x.1 ∧ x.2.2 ≤ x.1 ∧ nuF (s.drop x.1) x.2.1 x.2.2 = nuF s 0 0, fun x => [(4, .int .i64 x.2.1), (5, .int .i64 x.2.2), (6, .int .i64 x.1)], fun _ => [], fun x => s.length - x.1, (0, 0, 0), ⟨by simp, by simp, by simp, rfl⟩, ?_, fun x hx => ?_⟩
  · ((conv => whnf); refine And.intro ?_ ?_; repeat' first | refine leL_cons ?_ ?_ | exact leA_any | exact leA_refl rfl | exact leL_nil | refine leH_cons ?_ ?_ | exact leH_nil | exact leB_free | exact leB_dead | refine leB_cells ?_ | exact leB_map rfl | exact leB_gst rfl | exact leA_nil rfl | refine leA_agg ?_ | refine leA_tup ?_ | fail)
  (refine ⟨by kernel_rfl, ?_⟩; (conv => whnf))
  obtain ⟨i, a, b⟩ := x
  obtain ⟨hi1, hi2, hi3, hi4⟩ := hx
  simp only at hi1 hi2 hi3 hi4
  refine brI (fun h1 => ?_) (fun h1 => ?_)
  · conv => whnf
    have hi : i < s.length := by simp only [decide_eq_true_eq] at h1; omega
    refine ⟨⟨by omega, by simp only; omega⟩, fun c hc => ?_⟩
    have hc : s[(i : Int).toNat]? = some c := hc
    have hc : s[i]? = some c := by simpa using hc
    obtain ⟨hl, hg⟩ := List.getElem?_eq_some_iff.1 hc
    have hd : s.drop i = c :: s.drop (i + 1) := by rw [← hg]; exact List.drop_eq_getElem_cons hl
    rw [hd] at hi4
    simp only [nuF] at hi4
    conv => whnf
    refine brI (fun h2 => ?_) (fun h2 => ?_)
    · have h2 : (c.toNat : Int) = 46 := by simpa using h2
      rw [if_pos h2] at hi4
      conv => whnf
      refine ⟨(i + 1, a + 1, b), ⟨by simp only; omega, by simp only; omega, by simp only; omega, hi4⟩, by show s.length - (i + 1) < s.length - i; omega, ?_⟩
      ((conv => whnf); refine And.intro ?_ ?_; repeat' first | refine leL_cons ?_ ?_ | exact leA_any | exact leA_refl rfl | exact leL_nil | refine leH_cons ?_ ?_ | exact leH_nil | exact leB_free | exact leB_dead | refine leB_cells ?_ | exact leB_map rfl | exact leB_gst rfl | exact leA_nil rfl | refine leA_agg ?_ | refine leA_tup ?_ | fail)
      · exact leA_int (by rw [wI (by simp only; omega)]; simp only; omega)
      · exact leA_int (by rw [wI (by simp only; omega)]; simp only; omega)
    have h2 : ¬ (c.toNat : Int) = 46 := by simpa using h2
    rw [if_neg h2] at hi4
    conv => whnf
    refine ⟨⟨by omega, by simp only; omega⟩, fun c' hc' => ?_⟩
    have hc' : s[(i : Int).toNat]? = some c' := hc'
    have hc' : s[i]? = some c' := by simpa using hc'
    rw [hc] at hc'; cases hc'
    conv => whnf
    refine cbI [] (dgtB c.toNat) (z116 c.toNat) (fun h3 => ?_) (fun h3 => ?_)
    · conv => whnf
      rw [if_pos h3] at hi4
      refine ⟨(i + 1, a, b + 1), ⟨by simp only; omega, by simp only; omega, by simp only; omega, hi4⟩, by show s.length - (i + 1) < s.length - i; omega, ?_⟩
      ((conv => whnf); refine And.intro ?_ ?_; repeat' first | refine leL_cons ?_ ?_ | exact leA_any | exact leA_refl rfl | exact leL_nil | refine leH_cons ?_ ?_ | exact leH_nil | exact leB_free | exact leB_dead | refine leB_cells ?_ | exact leB_map rfl | exact leB_gst rfl | exact leA_nil rfl | refine leA_agg ?_ | refine leA_tup ?_ | fail)
      · exact leA_int (by rw [wI (by simp only; omega)]; simp only; omega)
      · exact leA_int (by rw [wI (by simp only; omega)]; simp only; omega)
    · conv => whnf
      rw [if_neg (by rw [h3]; simp)] at hi4
      rw [← hi4] at hA
      subst hA
      exact ⟨leA_refl rfl, leH_nil⟩
  have hi : ¬ i < s.length := by simp only [decide_eq_false_iff_not] at h1; omega
  rw [List.drop_of_length_le (by omega)] at hi4
  simp only [nuF] at hi4
  rw [← hi4] at hA
  simp only at hA
  conv => whnf
  refine brI (fun h2 => ?_) (fun h2 => ?_)
  · have h2 : 1 < a := by simp only [decide_eq_true_eq] at h2; omega
    rw [if_pos (.inl h2)] at hA
    subst hA
    conv => whnf
    exact ⟨leA_refl rfl, leH_nil⟩
  have h2 : ¬ 1 < a := by simp only [decide_eq_false_iff_not] at h2; omega
  conv => whnf
  match s, hs with
  | [], _ =>
    rw [if_pos (.inr (.inl rfl))] at hA
    subst hA
    conv => whnf
    exact ⟨leA_refl rfl, leH_nil⟩
  | c :: s, hs =>
    conv => whnf
    refine ⟨⟨by omega, by simp⟩, fun c' hc' => ?_⟩
    obtain rfl : c = c' := by simpa using hc'
    conv => whnf
    refine brI (fun h3 => ?_) (fun h3 => ?_)
    · have h3 : (c.toNat : Int) = 46 := by simpa using h3
      rw [if_pos (.inr (.inr (.inl h3)))] at hA
      subst hA
      conv => whnf
      exact ⟨leA_refl rfl, leH_nil⟩
    have h3 : ¬ (c.toNat : Int) = 46 := by simpa using h3
    conv => whnf
    have hw : IntKind.i64.wrap (((c :: s).length : Int) - 1) = (s.length : Int) := by rw [wI (by omega)]; simp
    refine ⟨⟨by rw [hw]; omega, by rw [hw]; simp only [List.length_cons]; omega⟩, fun d hd => ?_⟩
    have hd : (c :: s)[(IntKind.i64.wrap (((c :: s).length : Int) - 1)).toNat]? = some d := hd
    rw [hw] at hd
    have hl : (c :: s).getLast? = some d := by rw [List.getLast?_eq_getElem?]; simpa using hd
    rw [hl] at hA
    conv => whnf
    refine brI (fun h4 => ?_) (fun h4 => ?_)
    · have h4 : (d.toNat : Int) = 46 := by simpa using h4
      rw [if_pos (.inr (.inr (.inr h4)))] at hA
      subst hA
      conv => whnf
      exact ⟨leA_refl rfl, leH_nil⟩
    · have h4 : ¬ (d.toNat : Int) = 46 := by simpa using h4
      rw [if_neg (by simp only [List.headD_cons, Option.getD_some]; rintro (h | h | h | h) <;> simp_all)] at hA
      subst hA
      conv => whnf
      exact ⟨leA_refl rfl, leH_nil⟩
/-- The reference's kind of a run. -/
def kdR (s : Bytes) : Int × Int := if wordB s = true then (if 20 < s.length then (0, 5) else (1, 0)) else if (nuR s).2 = false then (0, 3) else if 18 < (nuR s).1 then (0, 5) else (2, 0)
theorem z78 (s : Bytes) (hs : s.length < 9223372036854775808) : Fn 211 [] [.str s] (.tup [.int .i64 (kdR s).1, .int .i64 (kdR s).2]) [] := by
  obtain ⟨A, hA⟩ : ∃ A, kdR s = A := ⟨_, rfl⟩
  rw [hA]
  unfold kdR at hA
  refine fnT hT hmx Tryz.func211 rfl rfl (ex := []) ?_
  conv => whnf
  refine cbI [] (wordB s) (z101 s hs) (fun h1 => ?_) (fun h1 => ?_)
  · rw [if_pos h1] at hA
    conv => whnf
    refine brI (fun h2 => ?_) (fun h2 => ?_)
    · rw [if_pos (by simp only [decide_eq_true_eq] at h2; omega)] at hA
      subst hA
      conv => whnf
      exact ⟨leA_refl rfl, leH_nil⟩
    · rw [if_neg (by simp only [decide_eq_false_iff_not] at h2; omega)] at hA
      subst hA
      conv => whnf
      exact ⟨leA_refl rfl, leH_nil⟩
  rw [if_neg (by rw [h1]; simp)] at hA
  have h102 := z102 s hs
  obtain ⟨⟨n, b⟩, hn⟩ : ∃ B, nuR s = B := ⟨_, rfl⟩
  rw [hn] at hA h102
  simp only at hA h102
  conv => whnf
  refine ⟨[], _, h102, ?_⟩
  conv => whnf
  cases b with
  | false =>
    rw [if_pos rfl] at hA
    subst hA
    conv => whnf
    exact ⟨leA_refl rfl, leH_nil⟩
  | true =>
    rw [if_neg (by simp)] at hA
    conv => whnf
    refine brI (fun h2 => ?_) (fun h2 => ?_)
    · rw [if_pos (by simpa using h2)] at hA
      subst hA
      conv => whnf
      exact ⟨leA_refl rfl, leH_nil⟩
    · rw [if_neg (by simpa using h2)] at hA
      subst hA
      conv => whnf
      exact ⟨leA_refl rfl, leH_nil⟩
theorem z103 : Fn 252 [] [] (.sl .str kws) [] := by
  refine fnT hT hmx Tryz.func252 rfl rfl (ex := []) ?_
  conv => whnf
  exact ⟨leA_refl rfl, leH_nil⟩
theorem kwB_drop (s : Bytes) {i : Nat} {k : Bytes} (h : kws[i]? = some k) : (kws.drop i).any (fun k => s == k) = ((s == k) || (kws.drop (i + 1)).any fun k => s == k) := by
  obtain ⟨hi, hx⟩ := List.getElem?_eq_some_iff.1 h
  rw [List.drop_eq_getElem_cons hi, hx, List.any_cons]
theorem z79 (s : Bytes) : Fn 212 [] [.str s] (.bool (kwB s)) [] := by
  obtain ⟨K, hK⟩ : ∃ K, kws = K := ⟨_, rfl⟩
  have h103 := z103
  have hkl : K.length = 15 := by rw [← hK]; rfl
  have hdr := @kwB_drop s
  unfold kwB
  rw [hK] at h103 hdr ⊢
  refine fnT hT hmx Tryz.func212 rfl rfl (ex := []) ?_
  conv => whnf
  refine ⟨[], _, h103, ?_⟩
  conv => whnf
  refine ⟨Nat, fun i => i ≤ K.length ∧ (K.drop i).any (fun k => s == k) = K.any (fun k => s == k), fun i => [(4, .int .i64 i)], fun _ => [], fun i => K.length - i, 0, ⟨by simp, by simp⟩, ?_, fun i hi => ?_⟩
  · ((conv => whnf); refine And.intro ?_ ?_; repeat' first | refine leL_cons ?_ ?_ | exact leA_any | exact leA_refl rfl | exact leL_nil | refine leH_cons ?_ ?_ | exact leH_nil | exact leB_free | exact leB_dead | refine leB_cells ?_ | exact leB_map rfl | exact leB_gst rfl | exact leA_nil rfl | refine leA_agg ?_ | refine leA_tup ?_ | fail)
  (refine ⟨by kernel_rfl, ?_⟩; (conv => whnf))
  obtain ⟨hi1, hi2⟩ := hi
  refine brI (fun h1 => ?_) (fun h1 => ?_)
  · conv => whnf
    have hi : i < K.length := by simp only [decide_eq_true_eq] at h1; omega
    refine ⟨⟨by omega, by omega⟩, fun k hk => ?_⟩
    have hk : K[i]? = some k := by simpa using hk
    rw [hdr hk] at hi2
    conv => whnf
    refine brI (fun h2 => ?_) (fun h2 => ?_)
    · conv => whnf
      have h2 : (k == s) = true := h2
      have h2 : (s == k) = true := by rw [beq_iff_eq] at h2 ⊢; exact h2.symm
      refine ⟨leA_bool ?_, leH_nil⟩
      rw [← hi2, h2, Bool.true_or]
    · conv => whnf
      have h2 : (k == s) = false := h2
      have h2 : (s == k) = false := by rw [beq_eq_false_iff_ne] at h2 ⊢; exact fun h => h2 h.symm
      rw [h2, Bool.false_or] at hi2
      refine ⟨i + 1, ⟨by omega, hi2⟩, by show K.length - (i + 1) < K.length - i; omega, ?_⟩
      ((conv => whnf); refine And.intro ?_ ?_; repeat' first | refine leL_cons ?_ ?_ | exact leA_any | exact leA_refl rfl | exact leL_nil | refine leH_cons ?_ ?_ | exact leH_nil | exact leB_free | exact leB_dead | refine leB_cells ?_ | exact leB_map rfl | exact leB_gst rfl | exact leA_nil rfl | refine leA_agg ?_ | refine leA_tup ?_ | fail)
      exact leA_int (by rw [wI (by omega)]; omega)
  · conv => whnf
    have hi : ¬ i < K.length := by simp only [decide_eq_false_iff_not] at h1; omega
    rw [List.drop_of_length_le (by omega)] at hi2
    exact ⟨leA_bool (by rw [← hi2]; rfl), leH_nil⟩
theorem z60 (s : Bytes) (hs : s.length < 9223372036854775808) : Fn 161 [] [.str s] (.bool (nameB s)) [] := by
  have h78 := z78 s hs
  have hk : decide ((kdR s).1 = 1) = (wordB s && decide (s.length ≤ 20)) := by
    unfold kdR
    split
    · rename_i h; rw [h]
      split
      · rename_i h2; rw [decide_eq_false (by simp), decide_eq_false (by omega)]; rfl
      · rename_i h2; rw [decide_eq_true rfl, decide_eq_true (by omega)]; rfl
    · rename_i h
      have h : wordB s = false := by simpa using h
      rw [h]
      split
      · rfl
      · split <;> rfl
  obtain ⟨⟨n, b⟩, hn⟩ : ∃ B, kdR s = B := ⟨_, rfl⟩
  rw [hn] at h78 hk
  simp only at h78 hk
  refine fnT hT hmx Tryz.func161 rfl rfl (ex := []) ?_
  conv => whnf
  refine ⟨[], _, h78, ?_⟩
  conv => whnf
  refine brI (fun h2 => ?_) (fun h2 => ?_)
  · have h2 : n = 1 := by simpa using h2
    rw [decide_eq_true h2] at hk
    conv => whnf
    refine ⟨[], _, z79 s, ?_⟩
    conv => whnf
    exact ⟨leA_bool (by rw [nameB, ← hk]; simp), leH_nil⟩
  · have h2 : ¬ n = 1 := by simpa using h2
    rw [decide_eq_false h2] at hk
    conv => whnf
    exact ⟨leA_bool (by rw [nameB, ← hk]; rfl), leH_nil⟩
end Go.Proofs.YtnijmbnkcmhfpaaGreatDoor
