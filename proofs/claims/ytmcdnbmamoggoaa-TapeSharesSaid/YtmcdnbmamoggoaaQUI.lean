/-
  Trees that are compared (same), and looked at (large).
-/
import Derived.Test.YtmcdnbmamoggoaaQIX
import Derived.Test.YtmcdnbmamoggoaaQVa
import Derived.Test.YtmcdnbmamoggoaaQCk
set_option linter.unusedVariables false
set_option linter.unusedSimpArgs false
namespace Go.Proofs.Ytmcdnbmamoggoaa
open Go Go.Sx
set_option maxRecDepth 100000
set_option maxHeartbeats 8000000
abbrev SameOK (a : Ex) : Prop := ∀ b, Fn 19 [] [.agg (exC a), .agg (exC b)] (.bool (sameE a b)) []
theorem f35 (l m : List Ex) (hl : ∀ x ∈ l, SameOK x) (hlen : l.length < 9223372036854775808) : Fn 35 [] [.sl .ex l, .sl .ex m, .fn 19 []] (.bool (sameL l m)) [] := by
  refine fnT hT hmx Try.func35 rfl rfl (ex := []) ?_
  conv => whnf
  refine brI (fun h1 => ?_) (fun h1 => ?_)
  · conv => whnf
    have h1 : l.length ≠ m.length := by simp only [bne_iff_ne, ne_eq] at h1; omega
    exact ⟨leA_bool (sameL_len h1).symm, leH_nil⟩
  · conv => whnf
    have h1 : l.length = m.length := by simp only [bne_eq_false_iff_eq] at h1; omega
    refine ⟨Nat, fun i => i ≤ l.length ∧ sameL (l.drop i) (m.drop i) = sameL l m, fun i => [(17, .int .i64 i)], fun _ => [], fun i => l.length - i, 0, ⟨by simp, rfl⟩, ?_, fun i hi => ?_⟩
    · ((conv => whnf); refine And.intro ?_ ?_; repeat' first | exact leL_nil | exact leH_nil | exact leA_any | exact leA_refl rfl | exact leA_nil rfl | refine leA_agg ?_ | refine leA_tup ?_ | exact leB_free | exact leB_dead | refine leL_cons ?_ ?_ | refine leH_cons ?_ ?_ | refine leB_cells ?_ | fail)
    · (refine ⟨by kernel_rfl, ?_⟩; (conv => whnf))
      obtain ⟨hi1, hi2⟩ := hi
      refine brI (fun h3 => ?_) (fun h3 => ?_)
      · conv => whnf
        have h3 : i < l.length := by simp only [decide_eq_true_eq] at h3; omega
        refine ⟨⟨by omega, by omega⟩, fun x hx => ?_⟩
        have hx : l[i]? = some x := by simpa using hx
        conv => whnf
        refine ⟨⟨by omega, by omega⟩, fun y hy => ?_⟩
        have hy : m[i]? = some y := by simpa using hy
        conv => whnf
        refine ⟨[], _, hl x (List.mem_of_getElem? hx) y, ?_⟩
        conv => whnf
        rw [drop_get hx, drop_get hy] at hi2
        simp only [sameL] at hi2
        refine brI (fun h4 => ?_) (fun h4 => ?_)
        · conv => whnf
          have h4 : sameE x y = false := by simpa using h4
          rw [h4] at hi2
          exact ⟨leA_bool (by rw [← hi2]; rfl), leH_nil⟩
        · conv => whnf
          have h4 : sameE x y = true := by simpa using h4
          rw [h4] at hi2
          refine ⟨i + 1, ⟨by omega, by rw [← hi2]; rfl⟩, by show l.length - (i + 1) < l.length - i; omega, ?_⟩
          ((conv => whnf); refine And.intro ?_ ?_; repeat' first | exact leL_nil | exact leH_nil | exact leA_any | exact leA_refl rfl | exact leA_nil rfl | refine leA_agg ?_ | refine leA_tup ?_ | exact leB_free | exact leB_dead | refine leL_cons ?_ ?_ | refine leH_cons ?_ ?_ | refine leB_cells ?_ | fail)
          exact leA_int (by rw [wI (by omega)]; omega)
      · conv => whnf
        have h3 : ¬ i < l.length := by simp only [decide_eq_false_iff_not] at h3; omega
        rw [List.drop_of_length_le (by omega), List.drop_of_length_le (by omega)] at hi2
        exact ⟨leA_bool (by rw [← hi2]; rfl), leH_nil⟩
theorem sameE_mk (k : Int) (q : Rt) (s : Bytes) (p : Int) (l : List Ex) (b : Ex) : sameE (.mk k q s p l) b = ((k == b.k) && ((q.n == b.q.n) && (q.d == b.q.d)) && (s == b.s) && (p == b.p) && decide (l.length ≤ 3) && sameL l b.l) := by rw [sameE]
theorem f19 : ∀ a, SameOK a := by
  refine exInd fun k q s p l ih => ?_
  intro b
  rw [sameE_mk]
  refine fnT hT hmx Try.func19 rfl rfl (ex := []) ?_
  conv => whnf
  refine brI (fun h1 => ?_) (fun h1 => ?_)
  · conv => whnf
    have h1 : (k == b.k) = true := h1
    refine brI (fun h2 => ?_) (fun h2 => ?_)
    · conv => whnf
      have h2 : ((q.n == b.q.n) && ((q.d == b.q.d) && true)) = true := h2
      refine brI (fun h3 => ?_) (fun h3 => ?_)
      · conv => whnf
        have h3 : (s == b.s) = true := h3
        refine brI (fun h4 => ?_) (fun h4 => ?_)
        · conv => whnf
          have h4 : (p == b.p) = true := h4
          refine brI (fun h5 => ?_) (fun h5 => ?_)
          · conv => whnf
            have h5 : l.length ≤ 3 := by have h5 : decide ((l.length : Int) ≤ 3) = true := h5; simp only [decide_eq_true_eq] at h5; omega
            refine ⟨[], _, f35 l b.l ih (by omega), ?_⟩
            conv => whnf
            exact ⟨leA_bool (by rw [Bool.and_true] at h2; simp [h1, h2, h3, h4, h5]), leH_nil⟩
          · conv => whnf
            have h5 : ¬ l.length ≤ 3 := by have h5 : decide ((l.length : Int) ≤ 3) = false := h5; simp only [decide_eq_false_iff_not] at h5; omega
            exact ⟨leA_bool (by simp [h5]), leH_nil⟩
        · conv => whnf
          have h4 : (p == b.p) = false := h4
          exact ⟨leA_bool (by rw [h4]; simp), leH_nil⟩
      · conv => whnf
        have h3 : (s == b.s) = false := h3
        exact ⟨leA_bool (by rw [h3]; simp), leH_nil⟩
    · conv => whnf
      have h2 : ((q.n == b.q.n) && ((q.d == b.q.d) && true)) = false := h2
      exact ⟨leA_bool (by rw [Bool.and_true] at h2; rw [h2]; simp), leH_nil⟩
  · conv => whnf
    have h1 : (k == b.k) = false := h1
    exact ⟨leA_bool (by rw [h1]; simp), leH_nil⟩
/-- Large: the place of the first operand. -/
def lxL : List Ex → Nat → Nat → Int
  | [], _, _ => -1
  | x :: l, d, i => if larE x d then i else lxL l d (i + 1)
theorem lxL_iff : ∀ (l : List Ex) (d i : Nat), 0 ≤ lxL l d i ↔ larL l d = true
  | [], d, i => by simp [lxL, larL]
  | x :: l, d, i => by
    simp only [lxL, larL]
    cases h : larE x d with
    | true => simp
    | false => simpa using lxL_iff l d (i + 1)
abbrev Hl (d : Nat) : Hp := [(1000003, cb1 d)]
abbrev LarOK (e : Ex) : Prop := ∀ d : Nat, d ≤ 31 → Fn 15 [] [.agg (exC e), .int .i64 d] (.bool (larE e d)) []
theorem leHl {h h' : Hp} (d : Nat) : leH h h' (Hl d) (Hl d) := leH_cons (leB_cells (leL_cons (leA_refl rfl) leL_nil)) leH_nil
theorem f61 (e : Ex) (h : LarOK e) (d : Nat) (hd : d ≤ 30) : Fn 61 (Hl d) [.agg (exC e), .ptr 1000003 0] (.bool (larE e (d + 1))) (Hl d) := by
  refine fnT hT hmx Try.func61 rfl rfl (ex := []) ?_
  conv => whnf
  rw [wI (x := (d : Int) + 1) (by omega)]
  refine ⟨[], .bool (larE e (d + 1)), h (d + 1) (by omega), ?_⟩
  conv => whnf
  exact ⟨leA_refl rfl, leHl d⟩
theorem f114l (l : List Ex) (hl : ∀ x ∈ l, LarOK x) (hlen : l.length < 9223372036854775808) (d : Nat) (hd : d ≤ 30) :
    Fn 114 (Hl d) [.sl .ex l, .fn 61 [.ptr 1000003 0]] (.int .i64 (lxL l (d + 1) 0)) (Hl d) := by
  refine fnT hT hmx Try.func114 rfl rfl (ex := []) ?_
  conv => whnf
  refine ⟨Nat, fun i => i ≤ l.length ∧ lxL (l.drop i) (d + 1) i = lxL l (d + 1) 0, fun i => [(8, .int .i64 i)], fun _ => [], fun i => l.length - i, 0, ⟨by simp, rfl⟩, ?_, fun i hi => ?_⟩
  · ((conv => whnf); refine And.intro ?_ ?_; repeat' first | exact leL_nil | exact leH_nil | exact leA_any | exact leA_refl rfl | exact leA_nil rfl | refine leA_agg ?_ | refine leA_tup ?_ | exact leB_free | exact leB_dead | refine leL_cons ?_ ?_ | refine leH_cons ?_ ?_ | refine leB_cells ?_ | fail)
  · (refine ⟨by kernel_rfl, ?_⟩; (conv => whnf))
    obtain ⟨hi1, hi2⟩ := hi
    refine brI (fun h1 => ?_) (fun h1 => ?_)
    · conv => whnf
      have hi : i < l.length := by simp only [decide_eq_true_eq] at h1; omega
      refine ⟨⟨by omega, by omega⟩, fun e he => ?_⟩
      have he : l[i]? = some e := by simpa using he
      conv => whnf
      refine ⟨[cb1 d], .bool (larE e (d + 1)), f61 e (hl e (List.mem_of_getElem? he)) d hd, ?_⟩
      conv => whnf
      rw [drop_get he] at hi2
      simp only [lxL] at hi2
      refine brI (fun h2 => ?_) (fun h2 => ?_)
      · conv => whnf
        rw [if_pos h2] at hi2
        exact ⟨leA_int hi2, leHl d⟩
      · conv => whnf
        rw [if_neg (by rw [h2]; simp)] at hi2
        refine ⟨i + 1, ⟨by omega, hi2⟩, by show l.length - (i + 1) < l.length - i; omega, ?_⟩
        ((conv => whnf); refine And.intro ?_ ?_; repeat' first | exact leL_nil | exact leH_nil | exact leA_any | exact leA_refl rfl | exact leA_nil rfl | refine leA_agg ?_ | refine leA_tup ?_ | exact leB_free | exact leB_dead | refine leL_cons ?_ ?_ | refine leH_cons ?_ ?_ | refine leB_cells ?_ | fail)
        exact leA_int (by rw [wI (by omega)]; omega)
    · conv => whnf
      have hi : ¬ i < l.length := by simp only [decide_eq_false_iff_not] at h1; omega
      rw [List.drop_of_length_le (by omega)] at hi2
      exact ⟨leA_int hi2, leHl d⟩
theorem f60l (l : List Ex) (hl : ∀ x ∈ l, LarOK x) (hlen : l.length < 9223372036854775808) (d : Nat) (hd : d ≤ 30) :
    Fn 60 (Hl d) [.sl .ex l, .fn 61 [.ptr 1000003 0]] (.bool (larL l (d + 1))) (Hl d) := by
  refine fnT hT hmx Try.func60 rfl rfl (ex := []) ?_
  conv => whnf
  refine ⟨[cb1 d], _, f114l l hl hlen d hd, ?_⟩
  conv => whnf
  exact ⟨leA_bool (by have := lxL_iff l (d + 1) 0; cases hc : larL l (d + 1) <;> simp_all), leHl d⟩
theorem f15 : ∀ (e : Ex), Sm e → LarOK e := by
  refine exInd fun k q s p l ih hs => ?_
  simp only [Sm] at hs
  have hl : ∀ x ∈ l, LarOK x := fun x hx => ih x hx (SmL_mem hs.2.2 x hx)
  intro d hd
  have hcon := f60l l hl hs.2.1 d
  refine fnT hT hmx Try.func15 rfl rfl (ex := []) ?_
  conv => whnf
  simp only [larE]
  refine brI (fun h1 => ?_) (fun h1 => ?_)
  · conv => whnf
    have h1 : 30 < d := by simp only [decide_eq_true_eq] at h1; omega
    exact ⟨leA_bool (by simp [h1]), leH_nil⟩
  · conv => whnf
    have h1 : ¬ 30 < d := by simp only [decide_eq_false_iff_not] at h1; omega
    refine brI (fun h2 => ?_) (fun h2 => ?_)
    · conv => whnf
      have h2 : 3 < l.length := by have h2 : decide ((l.length : Int) > 3) = true := h2; simp only [decide_eq_true_eq] at h2; omega
      exact ⟨leA_bool (by simp [h2]), leH_nil⟩
    · conv => whnf
      have h2 : ¬ 3 < l.length := by have h2 : decide ((l.length : Int) > 3) = false := h2; simp only [decide_eq_false_iff_not] at h2; omega
      refine brI (fun h3 => ?_) (fun h3 => ?_)
      · conv => whnf
        have h3 : 100 < s.length := by have h3 : decide ((s.length : Int) > 100) = true := h3; simp only [decide_eq_true_eq] at h3; omega
        exact ⟨leA_bool (by simp [h3]), leH_nil⟩
      · conv => whnf
        have h3 : ¬ 100 < s.length := by have h3 : decide ((s.length : Int) > 100) = false := h3; simp only [decide_eq_false_iff_not] at h3; omega
        refine ⟨[cb1 d], .bool (larL l (d + 1)), (hcon (by omega)).sw [(3, 1000003)] rfl, ?_⟩
        conv => whnf
        exact ⟨leA_bool (by simp [h1, h2, h3]), leH_nil⟩
end Go.Proofs.Ytmcdnbmamoggoaa
