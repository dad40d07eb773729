/-
  Gradients: the parts of the law.
-/
import Derived.Test.YtmcdnbmamoggoaaQUG
import Derived.Test.YtmcdnbmamoggoaaQUI
import Derived.Test.YtmcdnbmamoggoaaQSxY
set_option linter.unusedVariables false
set_option linter.unusedSimpArgs false
namespace Go.Proofs.Ytmcdnbmamoggoaa
open Go Go.Sx
set_option maxRecDepth 100000
set_option maxHeartbeats 8000000
/-- The place of the first element that fulfils a test. -/
def ixP {α : Type} (p : α → Bool) : List α → Nat → Int
  | [], _ => -1
  | x :: l, i => if p x then i else ixP p l (i + 1)
theorem ixP_iff {α : Type} (p : α → Bool) : ∀ (l : List α) (i : Nat), 0 ≤ ixP p l i ↔ l.any p = true
  | [], i => by simp [ixP]
  | x :: l, i => by
    have ih := ixP_iff p l (i + 1)
    by_cases h : p x = true
    · simp [ixP, h]
    · simp only [ixP, if_neg h, ih, List.any_cons]; simp [h]
abbrev eqC (q : Eqn) : List AV := .str q.s :: exC q.e
abbrev QOk (q : Eqn) : Prop := Sm q.e ∧ q.s.length < 9223372036854775808
def largeQ (q : Eqn) : Bool := larE q.e 0 || decide (50 < q.s.length)
def longS (s : Bytes) : Bool := decide (50 < s.length)
def badQ (q : Eqn) : Bool := !(okT q.e && nameB q.s)
theorem f31 (q : Eqn) (hq : QOk q) : Fn 31 [] [.agg (eqC q)] (.bool (largeQ q)) [] := by
  refine fnT hT hmx Try.func31 rfl rfl (ex := []) ?_
  conv => whnf
  refine cbI [] (larE q.e 0) (f15 q.e hq.1 0 (by omega)) (fun h1 => ?_) (fun h1 => ?_)
  · conv => whnf
    exact ⟨leA_bool (by simp [largeQ, h1]), leH_nil⟩
  · conv => whnf
    exact ⟨leA_bool (by simp only [largeQ, h1, Bool.false_or]; rw [decide_eq_decide]; omega), leH_nil⟩
theorem f33 (s : Bytes) : Fn 33 [] [.str s] (.bool (longS s)) [] := by
  refine fnT hT hmx Try.func33 rfl rfl (ex := []) ?_
  conv => whnf
  exact ⟨leA_bool (by simp only [longS]; rw [decide_eq_decide]; omega), leH_nil⟩
theorem f37 (q : Eqn) (hq : QOk q) : Fn 37 [] [.agg (eqC q)] (.bool (badQ q)) [] := by
  refine fnT hT hmx Try.func37 rfl rfl (ex := []) ?_
  conv => whnf
  refine cbI [] (okT q.e) (f17 q.e hq.1) (fun h1 => ?_) (fun h1 => ?_)
  · conv => whnf
    refine ⟨[], _, f18 q.s, ?_⟩
    conv => whnf
    refine cbI [] (nameB q.s) (by rw [← ok_var]; exact f17 (varE q.s) (Sm_var hq.2)) (fun h2 => ?_) (fun h2 => ?_)
    · conv => whnf
      exact ⟨leA_bool (by simp [badQ, h1, h2]), leH_nil⟩
    · conv => whnf
      exact ⟨leA_bool (by simp [badQ, h1, h2]), leH_nil⟩
  · conv => whnf
    exact ⟨leA_bool (by simp [badQ, h1]), leH_nil⟩
/-- The same name. -/
def nameQ (q x : Eqn) : Bool := x.s == q.s
abbrev Hq (q : Eqn) : Hp := [(1000003, .cells (eqC q))]
theorem leHq {h h' : Hp} (q : Eqn) : leH h h' (Hq q) (Hq q) := leH_cons (leB_cells (leL_refl rfl)) leH_nil
theorem f38 (q x : Eqn) : Fn 38 (Hq q) [.agg (eqC x), .ptr 1000003 0] (.bool (nameQ q x)) (Hq q) := by
  refine fnT hT hmx Try.func38 rfl rfl (ex := []) ?_
  conv => whnf
  exact ⟨leA_bool rfl, leHq q⟩
theorem f72a (l : List Eqn) (hl : ∀ x ∈ l, QOk x) (hlen : l.length < 9223372036854775808) : Fn 72 [] [.sl .eqn l, .fn 31 []] (.int .i64 (ixP largeQ l 0)) [] := by
  refine fnT hT hmx Try.func72 rfl rfl (ex := []) ?_
  conv => whnf
  refine ⟨Nat, fun i => i ≤ l.length ∧ ixP largeQ (l.drop i) i = ixP largeQ l 0, fun i => [(8, .int .i64 i)], fun _ => [], fun i => l.length - i, 0, ⟨by simp, rfl⟩, ?_, fun i hi => ?_⟩
  · ((conv => whnf); refine And.intro ?_ ?_; repeat' first | refine leL_cons ?_ ?_ | exact leA_any | exact leA_refl rfl | exact leL_nil | refine leH_cons ?_ ?_ | exact leH_nil | exact leB_free | exact leB_dead | refine leB_cells ?_ | exact leB_map rfl | exact leB_gst rfl | exact leA_nil rfl | refine leA_agg ?_ | refine leA_tup ?_ | fail)
  (refine ⟨by kernel_rfl, ?_⟩; (conv => whnf))
  obtain ⟨hi1, hi2⟩ := hi
  refine brI (fun h1 => ?_) (fun h1 => ?_)
  · conv => whnf
    have hi : i < l.length := by simp only [decide_eq_true_eq] at h1; omega
    refine ⟨⟨by omega, by omega⟩, fun x hx => ?_⟩
    have hx : l[i]? = some x := by simpa using hx
    have hm := List.mem_of_getElem? hx
    rw [drop_get hx] at hi2
    simp only [ixP] at hi2
    conv => whnf
    refine cbI [] (largeQ x) (f31 x (hl x hm)) (fun h2 => ?_) (fun h2 => ?_)
    · conv => whnf
      rw [if_pos h2] at hi2
      exact ⟨leA_int hi2, leH_nil⟩
    · conv => whnf
      rw [if_neg (by rw [h2]; simp)] at hi2
      refine ⟨i + 1, ⟨by omega, hi2⟩, by show l.length - (i + 1) < l.length - i; omega, ?_⟩
      ((conv => whnf); refine And.intro ?_ ?_; repeat' first | refine leL_cons ?_ ?_ | exact leA_any | exact leA_refl rfl | exact leL_nil | refine leH_cons ?_ ?_ | exact leH_nil | exact leB_free | exact leB_dead | refine leB_cells ?_ | exact leB_map rfl | exact leB_gst rfl | exact leA_nil rfl | refine leA_agg ?_ | refine leA_tup ?_ | fail)
      exact leA_int (by rw [wI (by omega)]; omega)
  · conv => whnf
    have hi : ¬ i < l.length := by simp only [decide_eq_false_iff_not] at h1; omega
    rw [List.drop_of_length_le (by omega)] at hi2
    exact ⟨leA_int hi2, leH_nil⟩
theorem f30a (l : List Eqn) (hl : ∀ x ∈ l, QOk x) (hlen : l.length < 9223372036854775808) : Fn 30 [] [.sl .eqn l, .fn 31 []] (.bool (l.any largeQ)) [] := by
  refine fnT hT hmx Try.func30 rfl rfl (ex := []) ?_
  conv => whnf
  refine ⟨[], _, f72a l hl hlen, ?_⟩
  conv => whnf
  exact ⟨leA_bool (by rw [Bool.eq_iff_iff, decide_eq_true_eq]; exact ixP_iff largeQ l 0), leH_nil⟩
theorem f72b (l : List Eqn) (hl : ∀ x ∈ l, QOk x) (hlen : l.length < 9223372036854775808) : Fn 72 [] [.sl .eqn l, .fn 37 []] (.int .i64 (ixP badQ l 0)) [] := by
  refine fnT hT hmx Try.func72 rfl rfl (ex := []) ?_
  conv => whnf
  refine ⟨Nat, fun i => i ≤ l.length ∧ ixP badQ (l.drop i) i = ixP badQ l 0, fun i => [(8, .int .i64 i)], fun _ => [], fun i => l.length - i, 0, ⟨by simp, rfl⟩, ?_, fun i hi => ?_⟩
  · ((conv => whnf); refine And.intro ?_ ?_; repeat' first | refine leL_cons ?_ ?_ | exact leA_any | exact leA_refl rfl | exact leL_nil | refine leH_cons ?_ ?_ | exact leH_nil | exact leB_free | exact leB_dead | refine leB_cells ?_ | exact leB_map rfl | exact leB_gst rfl | exact leA_nil rfl | refine leA_agg ?_ | refine leA_tup ?_ | fail)
  (refine ⟨by kernel_rfl, ?_⟩; (conv => whnf))
  obtain ⟨hi1, hi2⟩ := hi
  refine brI (fun h1 => ?_) (fun h1 => ?_)
  · conv => whnf
    have hi : i < l.length := by simp only [decide_eq_true_eq] at h1; omega
    refine ⟨⟨by omega, by omega⟩, fun x hx => ?_⟩
    have hx : l[i]? = some x := by simpa using hx
    have hm := List.mem_of_getElem? hx
    rw [drop_get hx] at hi2
    simp only [ixP] at hi2
    conv => whnf
    refine cbI [] (badQ x) (f37 x (hl x hm)) (fun h2 => ?_) (fun h2 => ?_)
    · conv => whnf
      rw [if_pos h2] at hi2
      exact ⟨leA_int hi2, leH_nil⟩
    · conv => whnf
      rw [if_neg (by rw [h2]; simp)] at hi2
      refine ⟨i + 1, ⟨by omega, hi2⟩, by show l.length - (i + 1) < l.length - i; omega, ?_⟩
      ((conv => whnf); refine And.intro ?_ ?_; repeat' first | refine leL_cons ?_ ?_ | exact leA_any | exact leA_refl rfl | exact leL_nil | refine leH_cons ?_ ?_ | exact leH_nil | exact leB_free | exact leB_dead | refine leB_cells ?_ | exact leB_map rfl | exact leB_gst rfl | exact leA_nil rfl | refine leA_agg ?_ | refine leA_tup ?_ | fail)
      exact leA_int (by rw [wI (by omega)]; omega)
  · conv => whnf
    have hi : ¬ i < l.length := by simp only [decide_eq_false_iff_not] at h1; omega
    rw [List.drop_of_length_le (by omega)] at hi2
    exact ⟨leA_int hi2, leH_nil⟩
theorem f30b (l : List Eqn) (hl : ∀ x ∈ l, QOk x) (hlen : l.length < 9223372036854775808) : Fn 30 [] [.sl .eqn l, .fn 37 []] (.bool (l.any badQ)) [] := by
  refine fnT hT hmx Try.func30 rfl rfl (ex := []) ?_
  conv => whnf
  refine ⟨[], _, f72b l hl hlen, ?_⟩
  conv => whnf
  exact ⟨leA_bool (by rw [Bool.eq_iff_iff, decide_eq_true_eq]; exact ixP_iff badQ l 0), leH_nil⟩
theorem f72c (q : Eqn) (l : List Eqn) (hlen : l.length < 9223372036854775808) : Fn 72 (Hq q) [.sl .eqn l, .fn 38 [.ptr 1000003 0]] (.int .i64 (ixP (nameQ q) l 0)) (Hq q) := by
  refine fnT hT hmx Try.func72 rfl rfl (ex := []) ?_
  conv => whnf
  refine ⟨Nat, fun i => i ≤ l.length ∧ ixP (nameQ q) (l.drop i) i = ixP (nameQ q) l 0, fun i => [(8, .int .i64 i)], fun _ => [], fun i => l.length - i, 0, ⟨by simp, rfl⟩, ?_, fun i hi => ?_⟩
  · ((conv => whnf); refine And.intro ?_ ?_; repeat' first | refine leL_cons ?_ ?_ | exact leA_any | exact leA_refl rfl | exact leL_nil | refine leH_cons ?_ ?_ | exact leH_nil | exact leB_free | exact leB_dead | refine leB_cells ?_ | exact leB_map rfl | exact leB_gst rfl | exact leA_nil rfl | refine leA_agg ?_ | refine leA_tup ?_ | fail)
  (refine ⟨by kernel_rfl, ?_⟩; (conv => whnf))
  obtain ⟨hi1, hi2⟩ := hi
  refine brI (fun h1 => ?_) (fun h1 => ?_)
  · conv => whnf
    have hi : i < l.length := by simp only [decide_eq_true_eq] at h1; omega
    refine ⟨⟨by omega, by omega⟩, fun x hx => ?_⟩
    have hx : l[i]? = some x := by simpa using hx
    have hm := List.mem_of_getElem? hx
    rw [drop_get hx] at hi2
    simp only [ixP] at hi2
    conv => whnf
    refine cbI [.cells (eqC q)] ((nameQ q) x) (f38 q x) (fun h2 => ?_) (fun h2 => ?_)
    · conv => whnf
      rw [if_pos h2] at hi2
      exact ⟨leA_int hi2, leHq q⟩
    · conv => whnf
      rw [if_neg (by rw [h2]; simp)] at hi2
      refine ⟨i + 1, ⟨by omega, hi2⟩, by show l.length - (i + 1) < l.length - i; omega, ?_⟩
      ((conv => whnf); refine And.intro ?_ ?_; repeat' first | refine leL_cons ?_ ?_ | exact leA_any | exact leA_refl rfl | exact leL_nil | refine leH_cons ?_ ?_ | exact leH_nil | exact leB_free | exact leB_dead | refine leB_cells ?_ | exact leB_map rfl | exact leB_gst rfl | exact leA_nil rfl | refine leA_agg ?_ | refine leA_tup ?_ | fail)
      exact leA_int (by rw [wI (by omega)]; omega)
  · conv => whnf
    have hi : ¬ i < l.length := by simp only [decide_eq_false_iff_not] at h1; omega
    rw [List.drop_of_length_le (by omega)] at hi2
    exact ⟨leA_int hi2, leHq q⟩
theorem f30c (q : Eqn) (l : List Eqn) (hlen : l.length < 9223372036854775808) : Fn 30 (Hq q) [.sl .eqn l, .fn 38 [.ptr 1000003 0]] (.bool (l.any (nameQ q))) (Hq q) := by
  refine fnT hT hmx Try.func30 rfl rfl (ex := []) ?_
  conv => whnf
  refine ⟨[.cells (eqC q)], _, f72c q l hlen, ?_⟩
  conv => whnf
  exact ⟨leA_bool (by rw [Bool.eq_iff_iff, decide_eq_true_eq]; exact ixP_iff (nameQ q) l 0), leHq q⟩
theorem f73 (l : List Bytes) (hlen : l.length < 9223372036854775808) : Fn 73 [] [.sl .str l, .fn 33 []] (.int .i64 (ixP longS l 0)) [] := by
  refine fnT hT hmx Try.func73 rfl rfl (ex := []) ?_
  conv => whnf
  refine ⟨Nat, fun i => i ≤ l.length ∧ ixP longS (l.drop i) i = ixP longS l 0, fun i => [(8, .int .i64 i)], fun _ => [], fun i => l.length - i, 0, ⟨by simp, rfl⟩, ?_, fun i hi => ?_⟩
  · ((conv => whnf); refine And.intro ?_ ?_; repeat' first | refine leL_cons ?_ ?_ | exact leA_any | exact leA_refl rfl | exact leL_nil | refine leH_cons ?_ ?_ | exact leH_nil | exact leB_free | exact leB_dead | refine leB_cells ?_ | exact leB_map rfl | exact leB_gst rfl | exact leA_nil rfl | refine leA_agg ?_ | refine leA_tup ?_ | fail)
  (refine ⟨by kernel_rfl, ?_⟩; (conv => whnf))
  obtain ⟨hi1, hi2⟩ := hi
  refine brI (fun h1 => ?_) (fun h1 => ?_)
  · conv => whnf
    have hi : i < l.length := by simp only [decide_eq_true_eq] at h1; omega
    refine ⟨⟨by omega, by omega⟩, fun x hx => ?_⟩
    have hx : l[i]? = some x := by simpa using hx
    have hm := List.mem_of_getElem? hx
    rw [drop_get hx] at hi2
    simp only [ixP] at hi2
    conv => whnf
    refine cbI [] (longS x) (f33 x) (fun h2 => ?_) (fun h2 => ?_)
    · conv => whnf
      rw [if_pos h2] at hi2
      exact ⟨leA_int hi2, leH_nil⟩
    · conv => whnf
      rw [if_neg (by rw [h2]; simp)] at hi2
      refine ⟨i + 1, ⟨by omega, hi2⟩, by show l.length - (i + 1) < l.length - i; omega, ?_⟩
      ((conv => whnf); refine And.intro ?_ ?_; repeat' first | refine leL_cons ?_ ?_ | exact leA_any | exact leA_refl rfl | exact leL_nil | refine leH_cons ?_ ?_ | exact leH_nil | exact leB_free | exact leB_dead | refine leB_cells ?_ | exact leB_map rfl | exact leB_gst rfl | exact leA_nil rfl | refine leA_agg ?_ | refine leA_tup ?_ | fail)
      exact leA_int (by rw [wI (by omega)]; omega)
  · conv => whnf
    have hi : ¬ i < l.length := by simp only [decide_eq_false_iff_not] at h1; omega
    rw [List.drop_of_length_le (by omega)] at hi2
    exact ⟨leA_int hi2, leH_nil⟩
theorem f32 (l : List Bytes) (hlen : l.length < 9223372036854775808) : Fn 32 [] [.sl .str l, .fn 33 []] (.bool (l.any longS)) [] := by
  refine fnT hT hmx Try.func32 rfl rfl (ex := []) ?_
  conv => whnf
  refine ⟨[], _, f73 l hlen, ?_⟩
  conv => whnf
  exact ⟨leA_bool (by rw [Bool.eq_iff_iff, decide_eq_true_eq]; exact ixP_iff longS l 0), leH_nil⟩
end Go.Proofs.Ytmcdnbmamoggoaa
