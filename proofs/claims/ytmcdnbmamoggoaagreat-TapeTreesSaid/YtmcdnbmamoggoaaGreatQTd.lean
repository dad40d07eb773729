/-
  The names of a tree, plainly.
-/
import Derived.Test.YtmcdnbmamoggoaaGreatQWx
import Derived.Test.YtmcdnbmamoggoaaGreatQTc
import Derived.Test.YtmcdnbmamoggoaaGreatQCk
set_option linter.unusedVariables false
set_option linter.unusedSimpArgs false
namespace Go.Proofs.YtmcdnbmamoggoaaGreat
open Go Go.Sx
theorem mem_namV {l : List Ex} {s : Bytes} : s ∈ namV l ↔ ∃ y ∈ l, y.k = 2 ∧ y.s = s := by
  induction l with
  | nil => simp [namV]
  | cons y l ih =>
    simp only [namV]
    split
    · rename_i h
      simp only [List.mem_cons, ih]
      constructor
      · rintro (h1 | ⟨z, h1, h2⟩)
        · exact ⟨y, .inl rfl, h, h1.symm⟩
        · exact ⟨z, .inr h1, h2⟩
      · rintro ⟨z, rfl | h1, h2, h3⟩
        · exact .inl h3.symm
        · exact .inr ⟨z, h1, h2, h3⟩
    · rename_i h
      simp only [List.mem_cons, ih]
      constructor
      · rintro ⟨z, h1, h2⟩; exact ⟨z, .inr h1, h2⟩
      · rintro ⟨z, rfl | h1, h2, h3⟩
        · exact absurd h2 h
        · exact ⟨z, h1, h2, h3⟩
theorem mem_nmE {e : Ex} (h : okT e = true) {s : Bytes} : s ∈ nmE e ↔ ∃ y ∈ preE e, y.k = 2 ∧ y.s = s := by
  unfold nmE
  rw [mem_compact]
  unfold srtS
  rw [List.mem_mergeSort, mem_namV]
  simp [visE, h]
end Go.Proofs.YtmcdnbmamoggoaaGreat

/-
  The tape: the example of the chapter.
-/
namespace Go.Proofs.YtmcdnbmamoggoaaGreat
open Go Go.Sx
set_option maxRecDepth 100000
set_option maxHeartbeats 8000000
theorem f78 (s : Bytes) : Fn 14 [] [.str s] (.agg (exC (varE s))) [] := by
  refine fnT hT2 hmx Tryz.func14 rfl rfl (ex := []) ?_
  conv => whnf
  exact ⟨leA_agg (leL_cons (leA_refl rfl) (leL_cons (leA_refl rfl) (leL_cons (leA_refl rfl) (leL_cons (leA_refl rfl) (leL_cons (leA_refl rfl) (leL_cons (leA_nil rfl) leL_nil)))))), leH_nil⟩
theorem f77 (k : Int) (a b : Ex) : Fn 13 [] [.int .i64 k, .agg (exC a), .agg (exC b)] (.agg (exC (opE k 0 [a, b]))) [] := by
  cases a
  cases b
  refine fnT hT2 hmx Tryz.func13 rfl rfl (ex := []) ?_
  conv => whnf
  exact ⟨leA_refl rfl, leH_nil⟩
theorem f79 (l m : List TOp) (hl : l.length < 9223372036854775808) : Fn 15 [] [.sl .op l, .sl .op m] (.bool (decide (l = m))) [] := by
  refine fnT hT2 hmx Tryz.func15 rfl rfl (ex := []) ?_
  conv => whnf
  refine brI (fun h1 => ?_) (fun h1 => ?_)
  · conv => whnf
    have h1 : l.length ≠ m.length := by simp only [bne_iff_ne, ne_eq] at h1; omega
    exact ⟨leA_bool (decide_eq_false (p := l = m) fun e => h1 (by rw [e])).symm, leH_nil⟩
  have h1 : l.length = m.length := by simp only [bne_eq_false_iff_eq] at h1; omega
  conv => whnf
  refine ⟨Nat, fun i => i ≤ l.length ∧ l.take i = m.take i, fun i => [(13, .int .i64 i)], fun _ => [], fun i => l.length - i, 0, ⟨by omega, by simp⟩, ?_, fun i hi => ?_⟩
  · ((conv => whnf); refine And.intro ?_ ?_; repeat' first | refine leL_cons ?_ ?_ | exact leA_any | exact leA_refl rfl | exact leL_nil | refine leH_cons ?_ ?_ | exact leH_nil | exact leB_free | exact leB_dead | refine leB_cells ?_ | exact leB_map rfl | exact leB_gst rfl | exact leA_nil rfl | refine leA_agg ?_ | refine leA_tup ?_ | fail)
  (refine ⟨by kernel_rfl, ?_⟩; (conv => whnf))
  obtain ⟨hi1, hi2⟩ := hi
  refine brI (fun h2 => ?_) (fun h2 => ?_)
  · conv => whnf
    have hi : i < l.length := by simp only [decide_eq_true_eq] at h2; omega
    refine ⟨⟨by omega, by omega⟩, fun (x : TOp) hx => ?_⟩
    have hx : l[i]? = some x := by simpa using hx
    conv => whnf
    refine ⟨⟨by omega, by omega⟩, fun (y : TOp) hy => ?_⟩
    have hy : m[i]? = some y := by simpa using hy
    conv => whnf
    (refine ⟨by kernel_rfl, by kernel_rfl, ?_⟩; (conv => whnf))
    refine brI (fun h3 => ?_) (fun h3 => ?_)
    · conv => whnf
      have h3 : x ≠ y := by
        intro e; subst e
        simp at h3
      refine ⟨leA_bool (decide_eq_false (p := l = m) fun e => h3 ?_).symm, leH_nil⟩
      rw [e, hy] at hx
      exact (Option.some.inj hx).symm
    · conv => whnf
      have h3 : x = y := by
        obtain ⟨k, a, b, p, ⟨c, d⟩⟩ := x
        obtain ⟨k', a', b', p', ⟨c', d'⟩⟩ := y
        simpa using h3
      refine ⟨i + 1, ⟨by omega, ?_⟩, by show l.length - (i + 1) < l.length - i; omega, ?_⟩
      · rw [List.take_add_one, List.take_add_one, hi2, hx, hy, h3]
      · ((conv => whnf); refine And.intro ?_ ?_; repeat' first | refine leL_cons ?_ ?_ | exact leA_any | exact leA_refl rfl | exact leL_nil | refine leH_cons ?_ ?_ | exact leH_nil | exact leB_free | exact leB_dead | refine leB_cells ?_ | exact leB_map rfl | exact leB_gst rfl | exact leA_nil rfl | refine leA_agg ?_ | refine leA_tup ?_ | fail)
        exact leA_int (by rw [wI (by omega)]; omega)
  · conv => whnf
    have hi : ¬ i < l.length := by simp only [decide_eq_false_iff_not] at h2; omega
    rw [List.take_of_length_le (by omega), List.take_of_length_le (by omega)] at hi2
    exact ⟨leA_bool (decide_eq_true hi2).symm, leH_nil⟩
theorem f80 (l m : List Int) (hl : l.length < 9223372036854775808) : Fn 16 [] [.sl .int l, .sl .int m] (.bool (decide (l = m))) [] := by
  refine fnT hT2 hmx Tryz.func16 rfl rfl (ex := []) ?_
  conv => whnf
  refine brI (fun h1 => ?_) (fun h1 => ?_)
  · conv => whnf
    have h1 : l.length ≠ m.length := by simp only [bne_iff_ne, ne_eq] at h1; omega
    exact ⟨leA_bool (decide_eq_false (p := l = m) fun e => h1 (by rw [e])).symm, leH_nil⟩
  have h1 : l.length = m.length := by simp only [bne_eq_false_iff_eq] at h1; omega
  conv => whnf
  refine ⟨Nat, fun i => i ≤ l.length ∧ l.take i = m.take i, fun i => [(13, .int .i64 i)], fun _ => [], fun i => l.length - i, 0, ⟨by omega, by simp⟩, ?_, fun i hi => ?_⟩
  · ((conv => whnf); refine And.intro ?_ ?_; repeat' first | refine leL_cons ?_ ?_ | exact leA_any | exact leA_refl rfl | exact leL_nil | refine leH_cons ?_ ?_ | exact leH_nil | exact leB_free | exact leB_dead | refine leB_cells ?_ | exact leB_map rfl | exact leB_gst rfl | exact leA_nil rfl | refine leA_agg ?_ | refine leA_tup ?_ | fail)
  (refine ⟨by kernel_rfl, ?_⟩; (conv => whnf))
  obtain ⟨hi1, hi2⟩ := hi
  refine brI (fun h2 => ?_) (fun h2 => ?_)
  · conv => whnf
    have hi : i < l.length := by simp only [decide_eq_true_eq] at h2; omega
    refine ⟨⟨by omega, by omega⟩, fun (x : Int) hx => ?_⟩
    have hx : l[i]? = some x := by simpa using hx
    conv => whnf
    refine ⟨⟨by omega, by omega⟩, fun (y : Int) hy => ?_⟩
    have hy : m[i]? = some y := by simpa using hy
    conv => whnf
    (refine ⟨by kernel_rfl, by kernel_rfl, ?_⟩; (conv => whnf))
    refine brI (fun h3 => ?_) (fun h3 => ?_)
    · conv => whnf
      have h3 : x ≠ y := by
        intro e; subst e
        simp at h3
      refine ⟨leA_bool (decide_eq_false (p := l = m) fun e => h3 ?_).symm, leH_nil⟩
      rw [e, hy] at hx
      exact (Option.some.inj hx).symm
    · conv => whnf
      have h3 : x = y := by
        simpa using h3
      refine ⟨i + 1, ⟨by omega, ?_⟩, by show l.length - (i + 1) < l.length - i; omega, ?_⟩
      · rw [List.take_add_one, List.take_add_one, hi2, hx, hy, h3]
      · ((conv => whnf); refine And.intro ?_ ?_; repeat' first | refine leL_cons ?_ ?_ | exact leA_any | exact leA_refl rfl | exact leL_nil | refine leH_cons ?_ ?_ | exact leH_nil | exact leB_free | exact leB_dead | refine leB_cells ?_ | exact leB_map rfl | exact leB_gst rfl | exact leA_nil rfl | refine leA_agg ?_ | refine leA_tup ?_ | fail)
        exact leA_int (by rw [wI (by omega)]; omega)
  · conv => whnf
    have hi : ¬ i < l.length := by simp only [decide_eq_false_iff_not] at h2; omega
    rw [List.take_of_length_le (by omega), List.take_of_length_le (by omega)] at hi2
    exact ⟨leA_bool (decide_eq_true hi2).symm, leH_nil⟩
abbrev awX : Ex := opE 5 0 [varE [120], varE [121]]
abbrev awU : Ex := ratE ⟨1, 1⟩
abbrev awA : Ex := opE 3 0 [awX, awX]
abbrev awB : Ex := opE 4 0 [awU, awX]
abbrev awN : List Bytes := [[120], [121]]
abbrev awO : List TOp := [⟨5, 0, 1, 0, ⟨0, 0⟩⟩, ⟨3, 2, 2, 0, ⟨0, 0⟩⟩, ⟨1, 0, 0, 0, ⟨1, 1⟩⟩, ⟨4, 4, 2, 0, ⟨0, 0⟩⟩]
abbrev awT : Tp := ⟨2, awO, [3, 5]⟩
theorem new_ok {ns : List Bytes} {e : Ex} (h : okT e = true) : newE ns e = false ↔ ∀ y ∈ preE e, y.k = 2 → y.s ∈ ns := by
  unfold newE
  rw [List.any_eq_false]
  have key : ∀ s : Bytes, ¬ newN ns s = true ↔ s ∈ ns := fun s => by
    unfold newN
    rw [Bool.not_eq_true', Bool.not_eq_false, List.any_eq_true]
    constructor
    · rintro ⟨x, hx, he⟩
      have : s = x := by simpa [eqS] using he
      rw [this]; exact hx
    · intro hs; exact ⟨s, hs, by simp [eqS]⟩
  constructor
  · intro h1 y hy h2
    exact (key _).1 (h1 y.s ((mem_nmE h).2 ⟨y, hy, h2, rfl⟩))
  · intro h1 s hs
    obtain ⟨y, hy, h2, rfl⟩ := (mem_nmE h).1 hs
    exact (key _).2 (h1 y hy h2)
theorem aw_okA : okT awA = true := by decide +kernel
theorem aw_okB : okT awB = true := by decide +kernel
theorem aw_cp : cpE [awA, awB] awN = (awT, 0) := by
  unfold cpE
  rw [if_neg (by simp only [List.any_cons, List.any_nil, badE, aw_okA, aw_okB]; decide +kernel), if_neg (by decide), if_neg (by decide +kernel), if_neg ?_, if_neg (by decide +kernel)]
  · kernel_rfl
  · simp only [List.any_cons, List.any_nil, Bool.or_false, Bool.or_eq_true, Bool.not_eq_true, not_or]
    refine ⟨(new_ok aw_okA).2 ?_, (new_ok aw_okB).2 ?_⟩
    · decide +kernel
    · decide +kernel
theorem f40 : Fn 5 [] [] (.bool true) [] := by
  have h46 := f46 [awA, awB] awN (fun x hx => by
    simp only [List.mem_cons, List.not_mem_nil, or_false] at hx
    rcases hx with rfl | rfl
    · exact VT_Sm (okT_VT aw_okA)
    · exact VT_Sm (okT_VT aw_okB)) (by decide) (by decide) (by decide)
  rw [aw_cp] at h46
  have h41 := f41 awT (by decide) (by decide)
  have h43 := f43 awT (by decide) (by decide)
  rw [show tvB awT = true by decide +kernel] at h41
  rw [show trB awT = true by decide +kernel] at h43
  have h79 := f79 awO awO (by decide)
  have h80 := f80 [3, 5] [3, 5] (by decide)
  rw [decide_eq_true rfl] at h79 h80
  refine fnT hT2 hmx Tryz.func5 rfl rfl (ex := []) ?_
  conv => whnf
  refine ⟨[], _, f78 [120], ?_⟩
  conv => whnf
  refine ⟨[], _, f78 [121], ?_⟩
  conv => whnf
  refine ⟨[], _, f77 5 (varE [120]) (varE [121]), ?_⟩
  conv => whnf
  refine ⟨[], _, f77 3 awX awX, ?_⟩
  conv => whnf
  refine ⟨[], _, nil2 (k := 1) (q := ⟨1, 1⟩) (s := []) (p := 0) (f77 4 awU awX), ?_⟩
  conv => whnf
  refine ⟨[], _, h46, ?_⟩
  conv => whnf
  (refine ⟨by kernel_rfl, by kernel_rfl, ?_⟩; (conv => whnf))
  refine ⟨[], _, h79, ?_⟩
  conv => whnf
  refine ⟨[], _, h80, ?_⟩
  conv => whnf
  refine ⟨[], _, h41, ?_⟩
  conv => whnf
  refine ⟨[], _, h43, ?_⟩
  conv => whnf
  exact ⟨leA_refl rfl, leH_nil⟩
end Go.Proofs.YtmcdnbmamoggoaaGreat
