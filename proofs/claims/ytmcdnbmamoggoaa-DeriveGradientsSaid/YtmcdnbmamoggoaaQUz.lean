/-
  Linear rules: the derivative of a sum, a difference and a product of simple expressions that are no numbers.
-/
import Derived.Test.YtmcdnbmamoggoaaQVb
import Derived.Test.YtmcdnbmamoggoaaQUG
import Derived.Test.YtmcdnbmamoggoaaQUw
import Derived.Test.YtmcdnbmamoggoaaQUI
import Derived.Test.YtmcdnbmamoggoaaQSxY
import Derived.Test.YtmcdnbmamoggoaaQRG
import Derived.Test.YtmcdnbmamoggoaaQUK
set_option linter.unusedVariables false
set_option linter.unusedSimpArgs false
namespace Go.Proofs.Ytmcdnbmamoggoaa
open Go Go.Sx
theorem op2_plain {k : Int} {a b : Ex} (hk : k = 3 ∨ k = 4 ∨ k = 5) (ha : a.k ≠ 1) (hb : b.k ≠ 1) : op2 k a b = opE k 0 [a, b] := by
  have h0 : foldN k 0 [a, b] = none := by simp [foldN, ha]
  have h1 : ∀ n, isB a n = false := fun n => by simp [isB, ha]
  have h2 : ∀ n, isB b n = false := fun n => by simp [isB, hb]
  unfold op2
  rw [h0]
  rcases hk with rfl | rfl | rfl <;> simp [sim2, h1, h2]
/-- What a pair of the statement's table must fulfil. -/
def LinP (n : Bytes) (p : Ex × Ex) : Prop := VT p.1 ∧ VT p.2 ∧ diffE n (simE p.1) = simE p.2
theorem lin_sum {n : Bytes} {a b : Ex} {k : Int} (hk : k = 3 ∨ k = 4) (ha : SP a) (hb : SP b) (h1 : a.k ≠ 1) (h2 : b.k ≠ 1) : LinP n (opE k 0 [a, b], opE k 0 [diffE n a, diffE n b]) := by
  have hk2 : K2 k := by unfold K2; omega
  refine ⟨VT.bin k a b hk2 (SP_VT ha) (SP_VT hb), VT.bin k _ _ hk2 (SP_VT (SP_diff n ha)) (SP_VT (SP_diff n hb)), ?_⟩
  show diffE n (simE (opE k 0 [a, b])) = simE (opE k 0 [diffE n a, diffE n b])
  rw [sim_two a b (K2_ne hk2), sim_SP ha, sim_SP hb, op2_plain (by omega) h1 h2, diff_two n a b (K2_ne hk2), sim_two _ _ (K2_ne hk2), sim_SP (SP_diff n ha), sim_SP (SP_diff n hb)]
  rcases hk with rfl | rfl <;> rfl
theorem lin_mul {n : Bytes} {a b : Ex} (ha : SP a) (hb : SP b) (h1 : a.k ≠ 1) (h2 : b.k ≠ 1) : LinP n (opE 5 0 [a, b], opE 3 0 [opE 5 0 [diffE n a, b], opE 5 0 [a, diffE n b]]) := by
  have k5 : K2 5 := by unfold K2; omega
  have k3 : K2 3 := by unfold K2; omega
  refine ⟨VT.bin 5 a b k5 (SP_VT ha) (SP_VT hb), VT.bin 3 _ _ k3 (VT.bin 5 _ _ k5 (SP_VT (SP_diff n ha)) (SP_VT hb)) (VT.bin 5 _ _ k5 (SP_VT ha) (SP_VT (SP_diff n hb))), ?_⟩
  show diffE n (simE (opE 5 0 [a, b])) = simE (opE 3 0 [opE 5 0 [diffE n a, b], opE 5 0 [a, diffE n b]])
  rw [sim_two a b (K2_ne k5), sim_SP ha, sim_SP hb, op2_plain (by omega) h1 h2, diff_two n a b (K2_ne k5), sim_two _ _ (K2_ne k3), sim_two _ _ (K2_ne k5), sim_two _ _ (K2_ne k5), sim_SP (SP_diff n ha), sim_SP (SP_diff n hb), sim_SP ha, sim_SP hb]
  rfl
/-- What Diff gives for such an expression. -/
theorem lin_use {n : Bytes} {p : Ex × Ex} (h : LinP n p) (h0 : (dfE p.1 n).2 = 0) (h1 : okT p.2 = true) : (dfE p.1 n).1 = simE p.2 ∧ VT (simE p.2) := by
  refine ⟨?_, VT_sim h.2.1⟩
  rw [← h.2.2]
  cases h2 : okT p.1 with
  | false => rw [dfE_no1 h2] at h0; simp at h0
  | true =>
    cases h3 : nameB n with
    | false => rw [dfE_no2 h3] at h0; simp at h0
    | true =>
      cases h4 : okT (diffE n (simE p.1)) with
      | false => rw [dfE_no3 h2 h3 h4] at h0; simp at h0
      | true => rw [dfE_yes h2 h3 h4]
end Go.Proofs.Ytmcdnbmamoggoaa

/-
  The law DeriveLinear: small trees, the table.
-/
namespace Go.Proofs.Ytmcdnbmamoggoaa
open Go Go.Sx
set_option maxRecDepth 100000
set_option maxHeartbeats 8000000
def smB (e : Ex) : Bool := !larE e 0 && (okT e && decide (szN e ≤ 60))
theorem smB_ok {e : Ex} (h : smB e = true) : okT e = true := by
  unfold smB at h
  simp only [Bool.and_eq_true] at h
  exact h.2.1
theorem f29 (k : Int) (a b : Ex) : Fn 29 [] [.int .i64 k, .agg (exC a), .agg (exC b)] (.agg (exC (opE k 0 [a, b]))) [] := by
  refine fnS hT hmx Try.func29 rfl rfl (ex := []) ?_
  conv => whnf
  rw [Ex.eta2, Ex.eta2]
  (refine And.intro ?_ ?_; repeat' first | exact leL_nil | exact leH_nil | exact leA_any | exact leA_refl rfl | exact leA_nil rfl | refine leA_agg ?_ | refine leA_tup ?_ | exact leB_free | exact leB_dead | refine leL_cons ?_ ?_ | refine leH_cons ?_ ?_ | refine leB_cells ?_ | fail)
/-- The law's table, with what each of its pairs fulfils. -/
theorem lin_tab {n : Bytes} {a b : Ex} (ha : SP a) (hb : SP b) (h1 : a.k ≠ 1) (h2 : b.k ≠ 1) (x y : Ex) (hx : x = diffE n a) (hy : y = diffE n b) :
    ∀ p ∈ [(opE 3 0 [a, b], opE 3 0 [x, y]), (opE 4 0 [a, b], opE 4 0 [x, y]), (opE 5 0 [a, b], opE 3 0 [opE 5 0 [x, b], opE 5 0 [a, y]])], LinP n p := by
  subst hx; subst hy
  intro p hp
  simp only [List.mem_cons, List.not_mem_nil, or_false] at hp
  rcases hp with rfl | rfl | rfl
  · exact lin_sum (.inl rfl) ha hb h1 h2
  · exact lin_sum (.inr rfl) ha hb h1 h2
  · exact lin_mul ha hb h1 h2
end Go.Proofs.Ytmcdnbmamoggoaa

/-
  Gradients: the parts of the law.
-/
namespace Go.Proofs.Ytmcdnbmamoggoaa
open Go Go.Sx
set_option maxRecDepth 100000
set_option maxHeartbeats 8000000
/-- The place of the first element that fulfils a test. -/
def ixP {α : Type} (p : α → Bool) : List α → Nat → Int
  | [], _ => -1
  | x :: l, i => if p x then i else ixP p l (i + 1)
theorem ixP_iff {α : Type} (p : α → Bool) : ∀ (l : List α) (i : Nat), 0 ≤ ixP p l i ↔ l.any p = true
  | [], i => by simp [ixP]
  | x :: l, i => by
    have ih := ixP_iff p l (i + 1)
    by_cases h : p x = true
    · simp [ixP, h]
    · simp only [ixP, if_neg h, ih, List.any_cons]; simp [h]
abbrev eqC (q : Eqn) : List AV := .str q.s :: exC q.e
abbrev QOk (q : Eqn) : Prop := Sm q.e ∧ q.s.length < 9223372036854775808
def largeQ (q : Eqn) : Bool := larE q.e 0 || decide (50 < q.s.length)
def longS (s : Bytes) : Bool := decide (50 < s.length)
def badQ (q : Eqn) : Bool := !(okT q.e && nameB q.s)
theorem f31 (q : Eqn) (hq : QOk q) : Fn 31 [] [.agg (eqC q)] (.bool (largeQ q)) [] := by
  refine fnS hT hmx Try.func31 rfl rfl (ex := []) ?_
  conv => whnf
  refine cbI [] (larE q.e 0) (f15 q.e hq.1 0 (by omega)) (fun h1 => ?_) (fun h1 => ?_)
  · conv => whnf
    exact ⟨leA_bool (by simp [largeQ, h1]), leH_nil⟩
  · conv => whnf
    exact ⟨leA_bool (by simp only [largeQ, h1, Bool.false_or]; rw [decide_eq_decide]; omega), leH_nil⟩
theorem f33 (s : Bytes) : Fn 33 [] [.str s] (.bool (longS s)) [] := by
  refine fnS hT hmx Try.func33 rfl rfl (ex := []) ?_
  conv => whnf
  exact ⟨leA_bool (by simp only [longS]; rw [decide_eq_decide]; omega), leH_nil⟩
theorem f37 (q : Eqn) (hq : QOk q) : Fn 37 [] [.agg (eqC q)] (.bool (badQ q)) [] := by
  refine fnS hT hmx Try.func37 rfl rfl (ex := []) ?_
  conv => whnf
  refine cbI [] (okT q.e) (f17 q.e hq.1) (fun h1 => ?_) (fun h1 => ?_)
  · conv => whnf
    refine ⟨[], _, f18 q.s, ?_⟩
    conv => whnf
    refine cbI [] (nameB q.s) (by rw [← ok_var]; exact f17 (varE q.s) (Sm_var hq.2)) (fun h2 => ?_) (fun h2 => ?_)
    · conv => whnf
      exact ⟨leA_bool (by simp [badQ, h1, h2]), leH_nil⟩
    · conv => whnf
      exact ⟨leA_bool (by simp [badQ, h1, h2]), leH_nil⟩
  · conv => whnf
    exact ⟨leA_bool (by simp [badQ, h1]), leH_nil⟩
/-- The same name. -/
def nameQ (q x : Eqn) : Bool := x.s == q.s
abbrev Hq (q : Eqn) : Hp := [(1000003, .cells (eqC q))]
theorem leHq {h h' : Hp} (q : Eqn) : leH h h' (Hq q) (Hq q) := leH_cons (leB_cells (leL_refl rfl)) leH_nil
theorem f38 (q x : Eqn) : Fn 38 (Hq q) [.agg (eqC x), .ptr 1000003 0] (.bool (nameQ q x)) (Hq q) := by
  refine fnS hT hmx Try.func38 rfl rfl (ex := []) ?_
  conv => whnf
  exact ⟨leA_bool rfl, leHq q⟩
theorem f72a (l : List Eqn) (hl : ∀ x ∈ l, QOk x) (hlen : l.length < 9223372036854775808) : Fn 72 [] [.sl .eqn l, .fn 31 []] (.int .i64 (ixP largeQ l 0)) [] := by
  refine fnS hT hmx Try.func72 rfl rfl (ex := []) ?_
  conv => whnf
  refine ⟨Nat, fun i => i ≤ l.length ∧ ixP largeQ (l.drop i) i = ixP largeQ l 0, fun i => [(8, .int .i64 i)], fun _ => [], fun i => l.length - i, 0, ⟨by simp, rfl⟩, ?_, fun i hi => ?_⟩
  · ((conv => whnf); refine And.intro ?_ ?_; repeat' first | refine leL_cons ?_ ?_ | exact leA_any | exact leA_refl rfl | exact leL_nil | refine leH_cons ?_ ?_ | exact leH_nil | exact leB_free | exact leB_dead | refine leB_cells ?_ | exact leB_map rfl | exact leB_gst rfl | exact leA_nil rfl | refine leA_agg ?_ | refine leA_tup ?_ | fail)
  (refine ⟨by kernel_rfl, ?_⟩; (conv => whnf))
  obtain ⟨hi1, hi2⟩ := hi
  refine brI (fun h1 => ?_) (fun h1 => ?_)
  · conv => whnf
    have hi : i < l.length := by simp only [decide_eq_true_eq] at h1; omega
    refine ⟨⟨by omega, by omega⟩, fun x hx => ?_⟩
    have hx : l[i]? = some x := by simpa using hx
    have hm := List.mem_of_getElem? hx
    rw [drop_get hx] at hi2
    simp only [ixP] at hi2
    conv => whnf
    refine cbI [] (largeQ x) (f31 x (hl x hm)) (fun h2 => ?_) (fun h2 => ?_)
    · conv => whnf
      rw [if_pos h2] at hi2
      exact ⟨leA_int hi2, leH_nil⟩
    · conv => whnf
      rw [if_neg (by rw [h2]; simp)] at hi2
      refine ⟨i + 1, ⟨by omega, hi2⟩, by show l.length - (i + 1) < l.length - i; omega, ?_⟩
      ((conv => whnf); refine And.intro ?_ ?_; repeat' first | refine leL_cons ?_ ?_ | exact leA_any | exact leA_refl rfl | exact leL_nil | refine leH_cons ?_ ?_ | exact leH_nil | exact leB_free | exact leB_dead | refine leB_cells ?_ | exact leB_map rfl | exact leB_gst rfl | exact leA_nil rfl | refine leA_agg ?_ | refine leA_tup ?_ | fail)
      exact leA_int (by rw [wI (by omega)]; omega)
  · conv => whnf
    have hi : ¬ i < l.length := by simp only [decide_eq_false_iff_not] at h1; omega
    rw [List.drop_of_length_le (by omega)] at hi2
    exact ⟨leA_int hi2, leH_nil⟩
theorem f30a (l : List Eqn) (hl : ∀ x ∈ l, QOk x) (hlen : l.length < 9223372036854775808) : Fn 30 [] [.sl .eqn l, .fn 31 []] (.bool (l.any largeQ)) [] := by
  refine fnS hT hmx Try.func30 rfl rfl (ex := []) ?_
  conv => whnf
  refine ⟨[], _, f72a l hl hlen, ?_⟩
  conv => whnf
  exact ⟨leA_bool (by rw [Bool.eq_iff_iff, decide_eq_true_eq]; exact ixP_iff largeQ l 0), leH_nil⟩
theorem f72b (l : List Eqn) (hl : ∀ x ∈ l, QOk x) (hlen : l.length < 9223372036854775808) : Fn 72 [] [.sl .eqn l, .fn 37 []] (.int .i64 (ixP badQ l 0)) [] := by
  refine fnS hT hmx Try.func72 rfl rfl (ex := []) ?_
  conv => whnf
  refine ⟨Nat, fun i => i ≤ l.length ∧ ixP badQ (l.drop i) i = ixP badQ l 0, fun i => [(8, .int .i64 i)], fun _ => [], fun i => l.length - i, 0, ⟨by simp, rfl⟩, ?_, fun i hi => ?_⟩
  · ((conv => whnf); refine And.intro ?_ ?_; repeat' first | refine leL_cons ?_ ?_ | exact leA_any | exact leA_refl rfl | exact leL_nil | refine leH_cons ?_ ?_ | exact leH_nil | exact leB_free | exact leB_dead | refine leB_cells ?_ | exact leB_map rfl | exact leB_gst rfl | exact leA_nil rfl | refine leA_agg ?_ | refine leA_tup ?_ | fail)
  (refine ⟨by kernel_rfl, ?_⟩; (conv => whnf))
  obtain ⟨hi1, hi2⟩ := hi
  refine brI (fun h1 => ?_) (fun h1 => ?_)
  · conv => whnf
    have hi : i < l.length := by simp only [decide_eq_true_eq] at h1; omega
    refine ⟨⟨by omega, by omega⟩, fun x hx => ?_⟩
    have hx : l[i]? = some x := by simpa using hx
    have hm := List.mem_of_getElem? hx
    rw [drop_get hx] at hi2
    simp only [ixP] at hi2
    conv => whnf
    refine cbI [] (badQ x) (f37 x (hl x hm)) (fun h2 => ?_) (fun h2 => ?_)
    · conv => whnf
      rw [if_pos h2] at hi2
      exact ⟨leA_int hi2, leH_nil⟩
    · conv => whnf
      rw [if_neg (by rw [h2]; simp)] at hi2
      refine ⟨i + 1, ⟨by omega, hi2⟩, by show l.length - (i + 1) < l.length - i; omega, ?_⟩
      ((conv => whnf); refine And.intro ?_ ?_; repeat' first | refine leL_cons ?_ ?_ | exact leA_any | exact leA_refl rfl | exact leL_nil | refine leH_cons ?_ ?_ | exact leH_nil | exact leB_free | exact leB_dead | refine leB_cells ?_ | exact leB_map rfl | exact leB_gst rfl | exact leA_nil rfl | refine leA_agg ?_ | refine leA_tup ?_ | fail)
      exact leA_int (by rw [wI (by omega)]; omega)
  · conv => whnf
    have hi : ¬ i < l.length := by simp only [decide_eq_false_iff_not] at h1; omega
    rw [List.drop_of_length_le (by omega)] at hi2
    exact ⟨leA_int hi2, leH_nil⟩
theorem f30b (l : List Eqn) (hl : ∀ x ∈ l, QOk x) (hlen : l.length < 9223372036854775808) : Fn 30 [] [.sl .eqn l, .fn 37 []] (.bool (l.any badQ)) [] := by
  refine fnS hT hmx Try.func30 rfl rfl (ex := []) ?_
  conv => whnf
  refine ⟨[], _, f72b l hl hlen, ?_⟩
  conv => whnf
  exact ⟨leA_bool (by rw [Bool.eq_iff_iff, decide_eq_true_eq]; exact ixP_iff badQ l 0), leH_nil⟩
theorem f72c (q : Eqn) (l : List Eqn) (hlen : l.length < 9223372036854775808) : Fn 72 (Hq q) [.sl .eqn l, .fn 38 [.ptr 1000003 0]] (.int .i64 (ixP (nameQ q) l 0)) (Hq q) := by
  refine fnS hT hmx Try.func72 rfl rfl (ex := []) ?_
  conv => whnf
  refine ⟨Nat, fun i => i ≤ l.length ∧ ixP (nameQ q) (l.drop i) i = ixP (nameQ q) l 0, fun i => [(8, .int .i64 i)], fun _ => [], fun i => l.length - i, 0, ⟨by simp, rfl⟩, ?_, fun i hi => ?_⟩
  · ((conv => whnf); refine And.intro ?_ ?_; repeat' first | refine leL_cons ?_ ?_ | exact leA_any | exact leA_refl rfl | exact leL_nil | refine leH_cons ?_ ?_ | exact leH_nil | exact leB_free | exact leB_dead | refine leB_cells ?_ | exact leB_map rfl | exact leB_gst rfl | exact leA_nil rfl | refine leA_agg ?_ | refine leA_tup ?_ | fail)
  (refine ⟨by kernel_rfl, ?_⟩; (conv => whnf))
  obtain ⟨hi1, hi2⟩ := hi
  refine brI (fun h1 => ?_) (fun h1 => ?_)
  · conv => whnf
    have hi : i < l.length := by simp only [decide_eq_true_eq] at h1; omega
    refine ⟨⟨by omega, by omega⟩, fun x hx => ?_⟩
    have hx : l[i]? = some x := by simpa using hx
    have hm := List.mem_of_getElem? hx
    rw [drop_get hx] at hi2
    simp only [ixP] at hi2
    conv => whnf
    refine cbI [.cells (eqC q)] ((nameQ q) x) (f38 q x) (fun h2 => ?_) (fun h2 => ?_)
    · conv => whnf
      rw [if_pos h2] at hi2
      exact ⟨leA_int hi2, leHq q⟩
    · conv => whnf
      rw [if_neg (by rw [h2]; simp)] at hi2
      refine ⟨i + 1, ⟨by omega, hi2⟩, by show l.length - (i + 1) < l.length - i; omega, ?_⟩
      ((conv => whnf); refine And.intro ?_ ?_; repeat' first | refine leL_cons ?_ ?_ | exact leA_any | exact leA_refl rfl | exact leL_nil | refine leH_cons ?_ ?_ | exact leH_nil | exact leB_free | exact leB_dead | refine leB_cells ?_ | exact leB_map rfl | exact leB_gst rfl | exact leA_nil rfl | refine leA_agg ?_ | refine leA_tup ?_ | fail)
      exact leA_int (by rw [wI (by omega)]; omega)
  · conv => whnf
    have hi : ¬ i < l.length := by simp only [decide_eq_false_iff_not] at h1; omega
    rw [List.drop_of_length_le (by omega)] at hi2
    exact ⟨leA_int hi2, leHq q⟩
theorem f30c (q : Eqn) (l : List Eqn) (hlen : l.length < 9223372036854775808) : Fn 30 (Hq q) [.sl .eqn l, .fn 38 [.ptr 1000003 0]] (.bool (l.any (nameQ q))) (Hq q) := by
  refine fnS hT hmx Try.func30 rfl rfl (ex := []) ?_
  conv => whnf
  refine ⟨[.cells (eqC q)], _, f72c q l hlen, ?_⟩
  conv => whnf
  exact ⟨leA_bool (by rw [Bool.eq_iff_iff, decide_eq_true_eq]; exact ixP_iff (nameQ q) l 0), leHq q⟩
theorem f73 (l : List Bytes) (hlen : l.length < 9223372036854775808) : Fn 73 [] [.sl .str l, .fn 33 []] (.int .i64 (ixP longS l 0)) [] := by
  refine fnS hT hmx Try.func73 rfl rfl (ex := []) ?_
  conv => whnf
  refine ⟨Nat, fun i => i ≤ l.length ∧ ixP longS (l.drop i) i = ixP longS l 0, fun i => [(8, .int .i64 i)], fun _ => [], fun i => l.length - i, 0, ⟨by simp, rfl⟩, ?_, fun i hi => ?_⟩
  · ((conv => whnf); refine And.intro ?_ ?_; repeat' first | refine leL_cons ?_ ?_ | exact leA_any | exact leA_refl rfl | exact leL_nil | refine leH_cons ?_ ?_ | exact leH_nil | exact leB_free | exact leB_dead | refine leB_cells ?_ | exact leB_map rfl | exact leB_gst rfl | exact leA_nil rfl | refine leA_agg ?_ | refine leA_tup ?_ | fail)
  (refine ⟨by kernel_rfl, ?_⟩; (conv => whnf))
  obtain ⟨hi1, hi2⟩ := hi
  refine brI (fun h1 => ?_) (fun h1 => ?_)
  · conv => whnf
    have hi : i < l.length := by simp only [decide_eq_true_eq] at h1; omega
    refine ⟨⟨by omega, by omega⟩, fun x hx => ?_⟩
    have hx : l[i]? = some x := by simpa using hx
    have hm := List.mem_of_getElem? hx
    rw [drop_get hx] at hi2
    simp only [ixP] at hi2
    conv => whnf
    refine cbI [] (longS x) (f33 x) (fun h2 => ?_) (fun h2 => ?_)
    · conv => whnf
      rw [if_pos h2] at hi2
      exact ⟨leA_int hi2, leH_nil⟩
    · conv => whnf
      rw [if_neg (by rw [h2]; simp)] at hi2
      refine ⟨i + 1, ⟨by omega, hi2⟩, by show l.length - (i + 1) < l.length - i; omega, ?_⟩
      ((conv => whnf); refine And.intro ?_ ?_; repeat' first | refine leL_cons ?_ ?_ | exact leA_any | exact leA_refl rfl | exact leL_nil | refine leH_cons ?_ ?_ | exact leH_nil | exact leB_free | exact leB_dead | refine leB_cells ?_ | exact leB_map rfl | exact leB_gst rfl | exact leA_nil rfl | refine leA_agg ?_ | refine leA_tup ?_ | fail)
      exact leA_int (by rw [wI (by omega)]; omega)
  · conv => whnf
    have hi : ¬ i < l.length := by simp only [decide_eq_false_iff_not] at h1; omega
    rw [List.drop_of_length_le (by omega)] at hi2
    exact ⟨leA_int hi2, leH_nil⟩
theorem f32 (l : List Bytes) (hlen : l.length < 9223372036854775808) : Fn 32 [] [.sl .str l, .fn 33 []] (.bool (l.any longS)) [] := by
  refine fnS hT hmx Try.func32 rfl rfl (ex := []) ?_
  conv => whnf
  refine ⟨[], _, f73 l hlen, ?_⟩
  conv => whnf
  exact ⟨leA_bool (by rw [Bool.eq_iff_iff, decide_eq_true_eq]; exact ixP_iff longS l 0), leH_nil⟩
end Go.Proofs.Ytmcdnbmamoggoaa

/-
  Gradients: derive.Gradient, and the reference's Along.
-/
namespace Go.Proofs.Ytmcdnbmamoggoaa
open Go Go.Sx
set_option maxRecDepth 100000
set_option maxHeartbeats 8000000
/-- The derivatives by names, or the first error. -/
def grL (e : Ex) : List Bytes → List Ex → List Ex × Int
  | [], acc => (acc, 0)
  | n :: r, acc => if (dfE e n).2 = 0 then grL e r (acc ++ [(dfE e n).1]) else ([], (dfE e n).2)
def grE (e : Ex) (ns : List Bytes) : List Ex × Int := if 8 < ns.length then ([], 5) else grL e ns []
abbrev grV (p : List Ex × Int) : AV := .tup [.sl .ex p.1, .int .i64 p.2]
theorem leA_gr0 {h h' : Hp} {n : Int} {p : List Ex × Int} (hp : p = ([], n)) : leA h h' (.tup [.nilsl, .int .i64 n]) (grV p) := by
  subst hp; exact leA_tup (leL_cons (leA_nil rfl) (leL_cons (leA_refl rfl) leL_nil))
theorem f34 (e : Ex) (ns : List Bytes) (he : Sm e) (hns : ∀ x ∈ ns, x.length < 9223372036854775808) (hlen : ns.length < 9223372036854775808) :
    Fn 34 [] [.agg (exC e), .sl .str ns] (grV (grE e ns)) [] := by
  obtain ⟨A, hA⟩ : ∃ A, grE e ns = A := ⟨_, rfl⟩
  rw [hA]
  refine fnS hT hmx Try.func34 rfl rfl (ex := []) ?_
  conv => whnf
  refine brI (fun h0 => ?_) (fun h0 => ?_)
  · conv => whnf
    have h0 : 8 < ns.length := by simp only [decide_eq_true_eq] at h0; omega
    exact ⟨leA_gr0 (by rw [← hA]; simp [grE, h0]), leH_nil⟩
  have h0 : ¬ 8 < ns.length := by simp only [decide_eq_false_iff_not] at h0; omega
  have hA : grL e ns [] = A := by rw [← hA]; simp [grE, h0]
  conv => whnf
  refine ⟨Nat × List Ex, fun x => x.1 ≤ ns.length ∧ x.2.length ≤ x.1 ∧ grL e (ns.drop x.1) x.2 = A, fun x => [(16, .int .i64 x.1), (6, .own 32)], fun x => [(32, .buf 26 .ex x.2)], fun x => ns.length - x.1, (0, []), ⟨by simp, by simp, hA⟩, ?_, fun x hx => ?_⟩
  · ((conv => whnf); refine And.intro ?_ ?_; repeat' first | refine leL_cons ?_ ?_ | exact leA_any | exact leA_refl rfl | exact leL_nil | refine leH_cons ?_ ?_ | exact leH_nil | exact leB_free | exact leB_dead | refine leB_cells ?_ | exact leB_map rfl | exact leB_gst rfl | exact leA_nil rfl | refine leA_agg ?_ | refine leA_tup ?_ | fail)
    · exact trivial
    · exact ⟨rfl, rfl⟩
  (refine ⟨by kernel_rfl, ?_⟩; (conv => whnf))
  obtain ⟨j, acc⟩ := x
  obtain ⟨hj1, hj2, hj3⟩ := hx
  simp only at hj1 hj2 hj3
  refine brI (fun h3 => ?_) (fun h3 => ?_)
  · conv => whnf
    have h3 : j < ns.length := by simp only [decide_eq_true_eq] at h3; omega
    refine ⟨⟨by omega, by omega⟩, fun n hn => ?_⟩
    have hn : ns[j]? = some n := by simpa using hn
    rw [drop_get hn] at hj3
    simp only [grL] at hj3
    have h16 := f16 e n he (hns n (List.mem_of_getElem? hn))
    generalize dfE e n = D at h16 hj3
    obtain ⟨d, k⟩ := D
    simp only at hj3
    conv => whnf
    refine ⟨[], _, h16, ?_⟩
    conv => whnf
    refine brI (fun h4 => ?_) (fun h4 => ?_)
    · conv => whnf
      have h4 : k ≠ 0 := by simpa using h4
      rw [if_neg h4] at hj3
      exact ⟨leA_gr0 hj3.symm, leH_nil⟩
    · conv => whnf
      have h4 : k = 0 := by simpa using h4
      rw [if_pos h4] at hj3
      refine ⟨by simp only [List.length_cons, List.length_nil]; omega, ?_⟩
      conv => whnf
      rw [Ex.eta2]
      refine ⟨(j + 1, acc ++ [d]), ⟨by simp only; omega, by simp only [List.length_append, List.length_cons, List.length_nil]; omega, hj3⟩, by show ns.length - (j + 1) < ns.length - j; omega, ?_⟩
      ((conv => whnf); refine And.intro ?_ ?_; repeat' first | refine leL_cons ?_ ?_ | exact leA_any | exact leA_refl rfl | exact leL_nil | refine leH_cons ?_ ?_ | exact leH_nil | exact leB_free | exact leB_dead | refine leB_cells ?_ | exact leB_map rfl | exact leB_gst rfl | exact leA_nil rfl | refine leA_agg ?_ | refine leA_tup ?_ | fail)
      · exact leA_int (by rw [wI (by simp only; omega)]; simp only; omega)
      · exact leB_buf rfl
  have h3 : ¬ j < ns.length := by simp only [decide_eq_false_iff_not] at h3; omega
  rw [List.drop_of_length_le (by omega)] at hj3
  simp only [grL] at hj3
  conv => whnf
  rw [← hj3]
  exact ⟨leA_tup (leL_cons (leA_refl rfl) (leL_cons (leA_refl rfl) leL_nil)), leH_nil⟩
end Go.Proofs.Ytmcdnbmamoggoaa

/-
  Sums of derivatives: the reference begins with 0.
-/
namespace Go.Proofs.Ytmcdnbmamoggoaa
open Go Go.Sx
theorem rMake_self {r : Rt} (h : rOk r = true) : rMake r.n r.d = (r, 0) := by
  have hi := rOk_in h
  have hg : Nat.gcd r.n.natAbs r.d.natAbs = 1 := by simp [rOk] at h; exact h.2
  obtain ⟨h1, h2, h3, h4⟩ := hi
  obtain ⟨n, d⟩ := r
  simp only at h1 h2 h3 h4 hg
  have hl : low (decide (n < 0) != decide (d < 0)) n.natAbs d.natAbs = some ⟨n, d⟩ := by
    unfold low
    rw [hg, Nat.div_one, Nat.div_one, if_pos (by omega)]
    have hd : decide (d < 0) = false := by simp; omega
    rw [hd]
    by_cases hn : n < 0
    · simp [hn]; omega
    · simp [hn]; omega
  unfold rMake
  rw [if_neg (by show ¬ d = 0; omega)]
  simp only [hl]
theorem z3l {b : Ex} (hb : VT b) : op2 3 (numE 0) b = b := by
  by_cases hk : b.k = 1
  · obtain ⟨r, hr, rfl⟩ : ∃ r, rOk r = true ∧ b = ratE r := by
      cases hb with
      | num r hr => exact ⟨r, hr, rfl⟩
      | var s hs => simp [varE, Ex.k] at hk
      | un k a h1 _ => simp [opE, Ex.k] at hk; unfold K1 at h1; omega
      | pow n a _ _ _ => simp [opE, Ex.k] at hk
      | bin k a b h1 _ _ => simp [opE, Ex.k] at hk; unfold K2 at h1; omega
    have h1 : rAdd ⟨0, 1⟩ r = (r, 0) := by
      unfold rAdd
      rw [rOp_yes ok01 hr]
      simp only [Int.zero_mul, Int.mul_one, Int.one_mul, Int.zero_add]
      exact rMake_self hr
    have h2 : foldN 3 0 [numE 0, ratE r] = some r := by
      simp [foldN, numE, ratE, Ex.k, q0, q1, Ex.q, h1, okN]
    simp [op2, h2]
  · have h2 : foldN 3 0 [numE 0, b] = none := by simp [foldN, hk]
    have h3 : isB (numE 0) 0 = true := by simp [isB, numE, Ex.k, Ex.q]
    simp [op2, h2, sim2, h3]
def sumR (e : Ex) : List Eqn → Ex → Option Ex
  | [], s => some s
  | q :: r, s => if (dfE e q.s).2 = 0 then sumR e r (op2 3 s (op2 5 (dfE e q.s).1 (simE q.e))) else none
theorem sumD_false (e : Ex) : ∀ (l : List Eqn) (s : Ex), sumD e l false s = sumR e l s
  | [], s => rfl
  | q :: r, s => by simp only [sumD, sumR, Bool.false_eq_true, if_false]; rw [sumD_false e r]
theorem sumD_true {e : Ex} {l : List Eqn} (he : okT e = true) (hl : flOk l = true) : sumD e l true (numE 0) = sumR e l (numE 0) := by
  cases l with
  | nil => rfl
  | cons q r =>
    have hq := flOk_mem hl (List.mem_cons_self)
    rcases dfE_two he hq.2 with ⟨d, hd, hv⟩ | hd
    · have hp : VT (op2 5 d (simE q.e)) := VT_op2 (by unfold K2; omega) hv (VT_sim (okT_VT hq.1))
      simp only [sumD, sumR, hd, if_true, z3l hp]
      exact sumD_false e r _
    · simp [sumD, sumR, hd]
/-- Of a valid result, the depth is small. -/
theorem dfE_dep {e : Ex} {nm : Bytes} (h : okT e = true) (h2 : nameB nm = true) : (∃ d, dfE e nm = (d, 0) ∧ VT d ∧ depE d ≤ 20) ∨ dfE e nm = (zeroE, 5) := by
  cases h3 : okT (diffE nm (simE e)) with
  | true => exact .inl ⟨_, dfE_yes h h2 h3, VT_diff nm (VT_sim (okT_VT h)), ((okT_iff _).1 h3).2.1⟩
  | false => exact .inr (dfE_no3 h h2 h3)
theorem dep_term {d x s : Ex} {i : Nat} (hd : VT d) (hx : okT x = true) (h1 : depE d ≤ 20) (hs : depE s ≤ 21 + i) : depE (op2 3 s (op2 5 d (simE x))) ≤ 22 + i := by
  have hv := VT_sim (okT_VT hx)
  have h2 := dep_sim (okT_VT hx)
  have h3 := ((okT_iff _).1 hx).2.1
  have h4 := dep_op2 5 d hv
  have h5 := dep_op2 3 s (VT_op2 (k := 5) (by unfold K2; omega) hd hv)
  omega
end Go.Proofs.Ytmcdnbmamoggoaa

/-
  The reference's Along.
-/
namespace Go.Proofs.Ytmcdnbmamoggoaa
open Go Go.Sx
set_option maxRecDepth 100000
set_option maxHeartbeats 8000000
theorem f39 (e : Ex) (fl : List Eqn) (he : okT e = true) (hfl : flOk fl = true) (hlen : fl.length ≤ 8) (hdup : dupS fl [] = false) :
    Fn 39 [] [.agg (exC e), .sl .eqn fl] (dfV (alE e fl)) [] := by
  obtain ⟨A, hA⟩ : ∃ A, alE e fl = A := ⟨_, rfl⟩
  rw [hA]
  have hv := okT_VT he
  have hde := ((okT_iff e).1 he).2.1
  refine fnS hT hmx Try.func39 rfl rfl (ex := []) ?_
  conv => whnf
  refine ⟨[], _, f59 0, ?_⟩
  conv => whnf
  refine ⟨Nat × Ex, fun x => x.1 ≤ fl.length ∧ sumR e (fl.drop x.1) x.2 = sumR e fl (numE 0) ∧ VT x.2 ∧ depE x.2 ≤ 21 + x.1, fun x => [(7, .int .i64 x.1)], fun x => [(6, .cells (exC x.2))], fun x => fl.length - x.1, (0, numE 0), ⟨by simp, rfl, VT_numE (by omega), by rw [dep_num]; omega⟩, ?_, fun x hx => ?_⟩
  · ((conv => whnf); refine And.intro ?_ ?_; repeat' first | refine leL_cons ?_ ?_ | exact leA_any | exact leA_refl rfl | exact leL_nil | refine leH_cons ?_ ?_ | exact leH_nil | exact leB_free | exact leB_dead | refine leB_cells ?_ | exact leB_map rfl | exact leB_gst rfl | exact leA_nil rfl | refine leA_agg ?_ | refine leA_tup ?_ | fail)
  (refine ⟨by kernel_rfl, ?_⟩; (conv => whnf))
  obtain ⟨k, s⟩ := x
  obtain ⟨hk1, hk2, hk3, hk4⟩ := hx
  simp only at hk1 hk2 hk3 hk4
  refine brI (fun h3 => ?_) (fun h3 => ?_)
  · conv => whnf
    have h3 : k < fl.length := by simp only [decide_eq_true_eq] at h3; omega
    refine ⟨⟨by omega, by omega⟩, fun q hq => ?_⟩
    have hq : fl[k]? = some q := by simpa using hq
    have hm := List.mem_of_getElem? hq
    have hqo := flOk_mem hfl hm
    rw [drop_get hq] at hk2
    simp only [sumR] at hk2
    have h20 := f20 (nm := q.s) hv (by omega)
    rw [← dfR_eq he hqo.2] at h20
    conv => whnf
    rcases dfE_dep he hqo.2 with ⟨d, hd, hvd, hdd⟩ | hd
    · rw [hd] at h20 hk2
      simp only [if_true] at hk2
      refine ⟨[], _, h20, ?_⟩
      conv => whnf
      (refine ⟨by kernel_rfl, by kernel_rfl, ?_⟩; (conv => whnf))
      refine ⟨⟨by omega, by omega⟩, fun q' hq' => ?_⟩
      have hq' : fl[k]? = some q' := by simpa using hq'
      obtain rfl : q = q' := by rw [hq] at hq'; exact Option.some.inj hq'
      conv => whnf
      have hvq := VT_sim (okT_VT hqo.1)
      refine ⟨[], _, f26 (okT_VT hqo.1), ?_⟩
      conv => whnf
      refine ⟨[], _, f76 (k := 5) (a := d) (b := simE q.e) (by unfold K2; omega) hvq, ?_⟩
      conv => whnf
      have hvp : VT (op2 5 d (simE q.e)) := VT_op2 (by unfold K2; omega) hvd hvq
      refine ⟨[], _, f76 (k := 3) (a := s) (b := op2 5 d (simE q.e)) (by unfold K2; omega) hvp, ?_⟩
      conv => whnf
      (refine ⟨by kernel_rfl, by kernel_rfl, ?_⟩; (conv => whnf))
      refine ⟨(k + 1, op2 3 s (op2 5 d (simE q.e))), ⟨by simp only; omega, hk2, VT_op2 (by unfold K2; omega) hk3 hvp, by have := dep_term hvd hqo.1 hdd hk4; simp only; omega⟩, by show fl.length - (k + 1) < fl.length - k; omega, ?_⟩
      ((conv => whnf); refine And.intro ?_ ?_; repeat' first | refine leL_cons ?_ ?_ | exact leA_any | exact leA_refl rfl | exact leL_nil | refine leH_cons ?_ ?_ | exact leH_nil | exact leB_free | exact leB_dead | refine leB_cells ?_ | exact leB_map rfl | exact leB_gst rfl | exact leA_nil rfl | refine leA_agg ?_ | refine leA_tup ?_ | fail)
      exact leA_int (by rw [wI (by simp only; omega)]; simp only; omega)
    · rw [hd] at h20 hk2
      refine ⟨[], _, h20, ?_⟩
      conv => whnf
      (refine ⟨by kernel_rfl, by kernel_rfl, ?_⟩; (conv => whnf))
      exact ⟨leA_zero (hA.symm.trans <| al_4 (by omega) he hfl hdup (by rw [sumD_true he hfl, ← hk2]; simp)), leH_nil⟩
  have h3 : ¬ k < fl.length := by simp only [decide_eq_false_iff_not] at h3; omega
  rw [List.drop_of_length_le (by omega)] at hk2
  simp only [sumR] at hk2
  have hk2 : sumD e fl true (numE 0) = some s := by rw [sumD_true he hfl]; exact hk2.symm
  conv => whnf
  refine cbI [] (okT s) (by rw [← fit_ok hk3]; exact f67 (e := s) (by omega) (VT_Sm hk3)) (fun h6 => ?_) (fun h6 => ?_)
  · conv => whnf
    exact ⟨leA_dfV (hA.symm.trans <| al_6 (by omega) he hfl hdup hk2 h6), leH_nil⟩
  · conv => whnf
    exact ⟨leA_zero (hA.symm.trans <| al_5 (by omega) he hfl hdup hk2 h6), leH_nil⟩
end Go.Proofs.Ytmcdnbmamoggoaa

/-
  Names that come twice: the statement's test and the program's.
-/
namespace Go.Proofs.Ytmcdnbmamoggoaa
open Go Go.Sx
theorem key_str (a b : Bytes) : keyB .str a b = decide (a = b) := by
  rw [Bool.eq_iff_iff, decide_eq_true_eq]
  exact beq_iff_eq (α := List UInt8)
theorem mget_put (x y : Bytes) : ∀ es : List (Bytes × Bool), mget .str x false (mput .str y true es) = (decide (y = x) || mget .str x false es)
  | [] => by
    by_cases h : x = y
    · subst h; simp [mput, mget, key_str]
    · have h' : ¬ y = x := fun e => h e.symm
      simp [mput, mget, key_str, h, h']
  | (z, v) :: r => by
    have ih := mget_put x y r
    by_cases h : y = z
    · subst h
      by_cases h2 : x = y
      · subst h2; simp [mput, mget, key_str]
      · have h' : ¬ y = x := fun e => h2 e.symm
        simp [mput, mget, key_str, h2, h']
    · by_cases h2 : x = z
      · subst h2; simp [mput, mget, key_str, h]
      · simp [mput, mget, key_str, h, h2]; simpa using ih
theorem nameQ_eq (q : Eqn) : nameQ q = fun x => decide (x.s = q.s) := by
  funext x
  show (x.s == q.s) = _
  rw [Bool.eq_iff_iff, decide_eq_true_eq]
  exact beq_iff_eq (α := List UInt8)
theorem dup_from (l : List Eqn) : ∀ (r : List Eqn) (i : Nat) (es : List (Bytes × Bool)), l.drop i = r → (∀ s, mget .str s false es = (l.take i).any (fun x => decide (x.s = s))) →
    (dupS r es = true ↔ ∃ (j : Nat) (q : Eqn), i ≤ j ∧ l[j]? = some q ∧ (l.take j).any (nameQ q) = true)
  | [], i, es, hd, _ => by
    simp only [dupS, Bool.false_eq_true, false_iff]
    rintro ⟨j, q, h1, h2, _⟩
    have h3 : l.length ≤ i := List.drop_eq_nil_iff.1 hd
    have h4 := (List.getElem?_eq_some_iff.1 h2).1
    omega
  | q :: r, i, es, hd, hes => by
    have hq : l[i]? = some q := by
      have := congrArg (fun l => l[0]?) hd
      simpa using this
    have hr : l.drop (i + 1) = r := by
      have := congrArg (List.drop 1) hd
      simpa [List.drop_drop] using this
    simp only [dupS]
    by_cases h : mget .str q.s false es = true
    · rw [if_pos h]
      simp only [true_iff]
      exact ⟨i, q, Nat.le_refl _, hq, by rw [nameQ_eq, ← hes]; exact h⟩
    · rw [if_neg h]
      have hn : ∀ s, mget .str s false (mput .str q.s true es) = (l.take (i + 1)).any (fun x => decide (x.s = s)) := by
        intro s
        rw [mget_put, hes, List.take_add_one, hq]
        simp [Bool.or_comm]
      rw [dup_from l r (i + 1) _ hr hn]
      constructor
      · rintro ⟨j, p, h1, h2, h3⟩; exact ⟨j, p, by omega, h2, h3⟩
      · rintro ⟨j, p, h1, h2, h3⟩
        refine ⟨j, p, ?_, h2, h3⟩
        rcases Nat.lt_or_ge i j with h4 | h4
        · omega
        · obtain rfl : i = j := by omega
          obtain rfl : q = p := by rw [hq] at h2; exact Option.some.inj h2
          exact absurd (by rw [hes, ← nameQ_eq]; exact h3) h
theorem dup_iff (l : List Eqn) : dupS l [] = true ↔ ∃ (j : Nat) (q : Eqn), l[j]? = some q ∧ (l.take j).any (nameQ q) = true := by
  rw [dup_from l l 0 [] rfl (fun s => by simp [mget])]
  constructor
  · rintro ⟨j, q, _, h2, h3⟩; exact ⟨j, q, h2, h3⟩
  · rintro ⟨j, q, h2, h3⟩; exact ⟨j, q, by omega, h2, h3⟩
theorem fl_bad {l : List Eqn} : l.any badQ = !flOk l := by
  induction l with
  | nil => rfl
  | cons q r ih => simp only [List.any_cons, ih, flOk, List.all_cons, badQ]; cases okT q.e <;> cases nameB q.s <;> simp
end Go.Proofs.Ytmcdnbmamoggoaa

/-
  The law DeriveGradients: its parts.
-/
namespace Go.Proofs.Ytmcdnbmamoggoaa
open Go Go.Sx
set_option maxRecDepth 100000
set_option maxHeartbeats 16000000
theorem nilS2 {P : Program} {f : Nat} {H : Hp} {a : AV} {k : Elt} {A : List AV} {r : AV} {H' : Hp} (h : FnOK P f H (a :: .sl k [] :: A) r H') : FnOK P f H (a :: .nilsl :: A) r H' :=
  h.arg fun ρ vs hv => match vs, hv with
    | _ :: _ :: _, ⟨h1, h2, h3⟩ => ⟨h1, R_nil h2, h3⟩
theorem same_al {e : Ex} {fl : List Eqn} (h : ¬ 8 < fl.length) (h2 : okT e = true) (h3 : flOk fl = true) (h4 : dupS fl [] = false) : sameE (alE e fl).1 (alE e fl).1 = true := by
  cases h5 : sumD e fl true (numE 0) with
  | none => rw [al_4 h h2 h3 h4 h5]; exact same_zero
  | some s =>
    cases h6 : okT s with
    | false => rw [al_5 h h2 h3 h4 h5 h6]; exact same_zero
    | true => rw [al_6 h h2 h3 h4 h5 h6]; exact same_refl (okT_VT h6)
theorem sameL_refl : ∀ {l : List Ex}, (∀ x ∈ l, VT x) → sameL l l = true
  | [], _ => rfl
  | x :: l, h => by
    have h1 := same_refl (h x List.mem_cons_self)
    have h2 := sameL_refl (l := l) fun y hy => h y (List.mem_cons_of_mem _ hy)
    simp only [sameL, h1, h2, Bool.and_self]
theorem dfE_VT {e : Ex} {n : Bytes} (h : okT e = true) (h0 : (dfE e n).2 = 0) : VT (dfE e n).1 := by
  cases h3 : nameB n with
  | false => rw [dfE_no2 h3] at h0; simp at h0
  | true =>
    rcases dfE_two h h3 with ⟨d, hd, hv⟩ | hd
    · rw [hd]; exact hv
    · rw [hd] at h0; simp at h0
abbrev NsOk (ns : List Bytes) : Prop := (∀ x ∈ ns, x.length < 9223372036854775808) ∧ ns.length < 9223372036854775808
abbrev FlOk (fl : List Eqn) : Prop := (∀ q ∈ fl, Sm q.e ∧ q.s.length < 9223372036854775808) ∧ fl.length < 9223372036854775808
end Go.Proofs.Ytmcdnbmamoggoaa
