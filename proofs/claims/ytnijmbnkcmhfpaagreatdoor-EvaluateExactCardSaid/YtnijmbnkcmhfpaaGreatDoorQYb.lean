/-
  Natural numbers as limbs: Mul, Cmp.
-/
import Derived.Test.YtnijmbnkcmhfpaaGreatDoorQYa
set_option linter.unusedVariables false
set_option linter.unusedSimpArgs false
namespace Go.Proofs.YtnijmbnkcmhfpaaGreatDoor
open Go Go.Sx
set_option maxRecDepth 100000
set_option maxHeartbeats 8000000
/-- x times b, added from the place p on, with a carry. -/
def mrGo (x : Int) : List Int → Nat → List Int → Int → List Int × Int
  | [], _, out, c => (out, c)
  | y :: b, p, out, c => mrGo x b (p + 1) (out.set p ((x * y + out[p]?.getD 0 + c) % 4294967296)) ((x * y + out[p]?.getD 0 + c) / 4294967296)
def mlGo (b : List Int) : List Int → Nat → List Int → List Int
  | [], _, out => out
  | x :: a, i, out => mlGo b a (i + 1) ((mrGo x b i out 0).1.set (i + b.length) (mrGo x b i out 0).2)
def mulL (a b : List Int) : List Int := mlGo b a 0 (List.replicate (a.length + b.length) 0)
theorem LB.set {l : List Int} (h : LB l) {i : Nat} {x : Int} (hx : 0 ≤ x ∧ x < 4294967296) : LB (l.set i x) := fun y hy => by
  rcases List.mem_or_eq_of_mem_set hy with h1 | h1
  · exact h y h1
  · rw [h1]; exact hx
theorem LB.at {l : List Int} (h : LB l) (i : Nat) : 0 ≤ l[i]?.getD 0 ∧ l[i]?.getD 0 < 4294967296 := by
  cases e : l[i]? with
  | none => simp
  | some x => exact h x (List.mem_of_getElem? e)
theorem mul_bd {x y o c : Int} (hx : 0 ≤ x ∧ x < 4294967296) (hy : 0 ≤ y ∧ y < 4294967296) (ho : 0 ≤ o ∧ o < 4294967296) (hc : 0 ≤ c ∧ c < 4294967296) :
    0 ≤ x * y ∧ x * y ≤ 18446744065119617025 ∧ 0 ≤ x * y + o + c ∧ x * y + o + c < 18446744073709551616 := by
  have h1 : 0 ≤ x * y := Int.mul_nonneg hx.1 hy.1
  have h2 : x * y ≤ 4294967295 * 4294967295 := Int.mul_le_mul (by omega) (by omega) hy.1 (by omega)
  omega
theorem y267 (a b : List Int) (ha : LB a) (hb : LB b) (hal : a.length ≤ 100000) (hbl : b.length ≤ 100000) : Fn 267 [] [.sl .u32 a, .sl .u32 b] (.sl .u32 (mulL a b)) [] := by
  obtain ⟨A, hA⟩ : ∃ A, mulL a b = A := ⟨_, rfl⟩
  rw [hA]
  unfold mulL at hA
  refine fnT hT4 hmx Tryz.func267 rfl rfl (ex := []) ?_
  conv => whnf
  rw [wI (x := (a.length : Int) + (b.length : Int)) (by omega)]
  refine ⟨⟨by omega, by omega, by omega⟩, ?_⟩
  conv => whnf
  refine ⟨Nat × List Int, fun x => x.1 ≤ a.length ∧ LB x.2 ∧ x.2.length = a.length + b.length ∧ mlGo b (a.drop x.1) x.1 x.2 = A, fun x => [(20, .int .i64 x.1)], fun x => [(17, .buf 113 .u32 x.2)], fun x => a.length - x.1, (0, List.replicate (a.length + b.length) 0), ⟨by simp, fun x hx => by rw [List.eq_of_mem_replicate hx]; omega, by simp, by simpa using hA⟩, ?_, fun x hx => ?_⟩
  · ((conv => whnf); refine And.intro ?_ ?_; repeat' first | refine leL_cons ?_ ?_ | exact leA_any | exact leA_refl rfl | exact leL_nil | refine leH_cons ?_ ?_ | exact leH_nil | exact leB_free | exact leB_dead | refine leB_cells ?_ | exact leB_map rfl | exact leB_buf rfl | exact leB_gst rfl | exact leA_nil rfl | refine leA_agg ?_ | refine leA_tup ?_ | fail)
  (refine ⟨by kernel_rfl, ?_⟩; (conv => whnf))
  obtain ⟨i, out⟩ := x
  obtain ⟨hi1, hi2, hi3, hi4⟩ := hx
  simp only at hi1 hi2 hi3 hi4
  refine brI (fun h1 => ?_) (fun h1 => ?_)
  · have hi : i < a.length := by simp only [decide_eq_true_eq] at h1; omega
    conv => whnf
    refine ⟨⟨by omega, by simp only; omega⟩, fun (x : Int) hx => ?_⟩
    have hx : a[i]? = some x := by simpa using hx
    have hxb := ha x (List.mem_of_getElem? hx)
    rw [drop_get hx] at hi4
    simp only [mlGo] at hi4
    conv => whnf
    refine ⟨Nat × List Int × Int, fun z => z.1 ≤ b.length ∧ LB z.2.1 ∧ z.2.1.length = a.length + b.length ∧ (0 ≤ z.2.2 ∧ z.2.2 < 4294967296) ∧ mrGo x (b.drop z.1) (i + z.1) z.2.1 z.2.2 = mrGo x b i out 0, fun z => [(27, .int .i64 z.1), (8, .int .u64 z.2.2)], fun z => [(17, .buf 113 .u32 z.2.1)], fun z => b.length - z.1, (0, out, 0), ⟨by simp, hi2, hi3, by simp, by simp⟩, ?_, fun z hz => ?_⟩
    · ((conv => whnf); refine And.intro ?_ ?_; repeat' first | refine leL_cons ?_ ?_ | exact leA_any | exact leA_refl rfl | exact leL_nil | refine leH_cons ?_ ?_ | exact leH_nil | exact leB_free | exact leB_dead | refine leB_cells ?_ | exact leB_map rfl | exact leB_buf rfl | exact leB_gst rfl | exact leA_nil rfl | refine leA_agg ?_ | refine leA_tup ?_ | fail)
    (refine ⟨by kernel_rfl, ?_⟩; (conv => whnf))
    obtain ⟨k, o2, c⟩ := z
    obtain ⟨hk1, hk2, hk3, hk4, hk5⟩ := hz
    simp only at hk1 hk2 hk3 hk4 hk5
    refine brI (fun h2 => ?_) (fun h2 => ?_)
    · have hk : k < b.length := by simp only [decide_eq_true_eq] at h2; omega
      conv => whnf
      refine ⟨⟨by omega, by simp only; omega⟩, fun (y : Int) hy => ?_⟩
      have hy : b[k]? = some y := by simpa using hy
      have hyb := hb y (List.mem_of_getElem? hy)
      rw [drop_get hy] at hk5
      simp only [mrGo] at hk5
      have hob := hk2.at (i + k)
      have hbd := mul_bd hxb hyb hob hk4
      have hik : IntKind.i64.wrap ((i : Int) + (k : Int)) = ((i + k : Nat) : Int) := by rw [wI (by omega)]; omega
      conv => whnf
      refine ⟨⟨by show 0 ≤ IntKind.i64.wrap ((i : Int) + (k : Int)); rw [hik]; omega, by show IntKind.i64.wrap ((i : Int) + (k : Int)) < (o2.length : Int); rw [hik]; omega⟩, ?_⟩
      conv => whnf
      refine ⟨by show (IntKind.i64.wrap ((i : Int) + (k : Int))).toNat < o2.length; rw [hik]; omega, fun (o : Int) ho => ?_⟩
      have ho : o2[i + k]? = some o := by
        have ho : o2[(IntKind.i64.wrap ((i : Int) + (k : Int))).toNat]? = some o := ho
        rw [hik, show (((i + k : Nat) : Int)).toNat = i + k by omega] at ho; exact ho
      rw [ho] at hob hbd hk5
      simp only [Option.getD_some] at hob hbd hk5
      have hsum : IntKind.u64.wrap (IntKind.u64.wrap (IntKind.u64.wrap (IntKind.u64.wrap x * IntKind.u64.wrap y) + IntKind.u64.wrap o) + c) = x * y + o + c := by
        rw [wU (x := x) (by omega), wU (x := y) (by omega), wU (x := o) (by omega), wU (x := x * y) (by omega), wU (x := x * y + o) (by omega), wU (by omega)]
      obtain ⟨s, hs⟩ : ∃ s, x * y + o + c = s := ⟨_, rfl⟩
      rw [hs] at hbd hk5 hsum
      conv => whnf
      refine ⟨by omega, ?_⟩
      conv => whnf
      refine ⟨⟨by show 0 ≤ IntKind.i64.wrap ((i : Int) + (k : Int)); rw [hik]; omega, by show IntKind.i64.wrap ((i : Int) + (k : Int)) < (o2.length : Int); rw [hik]; omega⟩, ?_⟩
      conv => whnf
      refine ⟨by show (IntKind.i64.wrap ((i : Int) + (k : Int))).toNat < o2.length; rw [hik]; omega, ?_⟩
      conv => whnf
      have e1 : IntKind.u32.wrap s = s % 4294967296 := by simp [IntKind.wrap, IntKind.signed, IntKind.bits]
      have e2 : s.fdiv 4294967296 = s / 4294967296 := Int.fdiv_eq_ediv_of_nonneg _ (by decide)
      refine ⟨(k + 1, o2.set (i + k) (s % 4294967296), s / 4294967296), ⟨by simp only; omega, hk2.set (by omega), by simp only [List.length_set]; exact hk3, ⟨by simp only; omega, by simp only; omega⟩, hk5⟩, by show b.length - (k + 1) < b.length - k; omega, ?_⟩
      ((conv => whnf); refine And.intro ?_ ?_; repeat' first | refine leL_cons ?_ ?_ | exact leA_any | exact leA_refl rfl | exact leL_nil | refine leH_cons ?_ ?_ | exact leH_nil | exact leB_free | exact leB_dead | refine leB_cells ?_ | exact leB_map rfl | exact leB_buf rfl | exact leB_gst rfl | exact leA_nil rfl | refine leA_agg ?_ | refine leA_tup ?_ | fail)
      · exact leA_int ((congrArg (fun z : Int => z.fdiv 4294967296) hsum).trans e2)
      · exact leA_int (by rw [wI (by simp only; omega)]; simp only; omega)
      · exact leB_buf (by
          show List.set o2 (IntKind.i64.wrap ((i : Int) + (k : Int))).toNat (IntKind.u32.wrap _) = o2.set (i + k) (s % 4294967296)
          rw [hik, show (((i + k : Nat) : Int)).toNat = i + k by omega, ← e1, ← hsum])
      all_goals trace_state
    · have hk : k = b.length := by simp only [decide_eq_false_iff_not] at h2; omega
      subst hk
      rw [List.drop_of_length_le (by omega)] at hk5
      simp only [mrGo] at hk5
      rw [← hk5] at hi4
      have hik : IntKind.i64.wrap ((i : Int) + (b.length : Int)) = ((i + b.length : Nat) : Int) := by rw [wI (by omega)]; omega
      conv => whnf
      refine ⟨⟨by show 0 ≤ IntKind.i64.wrap ((i : Int) + (b.length : Int)); rw [hik]; omega, by show IntKind.i64.wrap ((i : Int) + (b.length : Int)) < (o2.length : Int); rw [hik]; omega⟩, ?_⟩
      conv => whnf
      refine ⟨by show (IntKind.i64.wrap ((i : Int) + (b.length : Int))).toNat < o2.length; rw [hik]; omega, ?_⟩
      conv => whnf
      have e1 : IntKind.u32.wrap c = c := by simp [IntKind.wrap, IntKind.signed, IntKind.bits]; omega
      refine ⟨(i + 1, o2.set (i + b.length) c), ⟨by simp only; omega, hk2.set hk4, by simp only [List.length_set]; exact hk3, hi4⟩, by show a.length - (i + 1) < a.length - i; omega, ?_⟩
      ((conv => whnf); refine And.intro ?_ ?_; repeat' first | refine leL_cons ?_ ?_ | exact leA_any | exact leA_refl rfl | exact leL_nil | refine leH_cons ?_ ?_ | exact leH_nil | exact leB_free | exact leB_dead | refine leB_cells ?_ | exact leB_map rfl | exact leB_buf rfl | exact leB_gst rfl | exact leA_nil rfl | refine leA_agg ?_ | refine leA_tup ?_ | fail)
      · exact leA_int (by rw [wI (by simp only; omega)]; simp only; omega)
      · exact leB_buf (by
          show List.set o2 (IntKind.i64.wrap ((i : Int) + (b.length : Int))).toNat (IntKind.u32.wrap c) = o2.set (i + b.length) c
          rw [hik, show (((i + b.length : Nat) : Int)).toNat = i + b.length by omega, e1])
      all_goals trace_state
  · have hi : i = a.length := by simp only [decide_eq_false_iff_not] at h1; omega
    subst hi
    rw [List.drop_of_length_le (by omega)] at hi4
    simp only [mlGo] at hi4
    conv => whnf
    exact ⟨leA_sl hi4, leH_nil⟩
theorem mrGo_len (x : Int) : ∀ (b : List Int) (p : Nat) (out : List Int) (c : Int), (mrGo x b p out c).1.length = out.length
  | [], _, out, c => rfl
  | y :: b, p, out, c => by simp [mrGo, mrGo_len x b]
theorem mlGo_len (b : List Int) : ∀ (a : List Int) (i : Nat) (out : List Int), (mlGo b a i out).length = out.length
  | [], _, _ => rfl
  | x :: a, i, out => by simp [mlGo, mlGo_len b a, mrGo_len]
theorem mulL_len (a b : List Int) : (mulL a b).length = a.length + b.length := by simp [mulL, mlGo_len]
def mulR (a b : List Int) : List Int × Int := if 256 < a.length ∨ 256 < b.length then ([], 9) else dnL (mulL (trL a) (trL b))
theorem y225 (a b : List Int) (ha : LB a) (hb : LB b) (hal : a.length ≤ 100000) (hbl : b.length ≤ 100000) : Fn 225 [] [.sl .u32 a, .sl .u32 b] (dnV (mulR a b)) [] := by
  obtain ⟨A, hA⟩ : ∃ A, mulR a b = A := ⟨_, rfl⟩
  rw [hA]
  unfold mulR at hA
  have h215 := y215 [a, b] (by simp)
  have hlg : [a, b].any lgB = (decide (256 < a.length) || decide (256 < b.length)) := by simp [lgB]
  rw [hlg] at h215
  have hta := trL_len a
  have htb := trL_len b
  have hml := mulL_len (trL a) (trL b)
  refine fnT hT4 hmx Tryz.func225 rfl rfl (ex := []) ?_
  conv => whnf
  refine cbI [] _ h215 (fun h1 => ?_) (fun h1 => ?_)
  · rw [if_pos (by simpa using h1)] at hA
    subst hA
    conv => whnf
    exact ⟨leN, leH_nil⟩
  rw [if_neg (by simp only [Bool.or_eq_false_iff, decide_eq_false_iff_not] at h1; omega)] at hA
  have h267 := y267 (trL a) (trL b) ha.tr hb.tr (by omega) (by omega)
  have h221 := y221 (mulL (trL a) (trL b)) (by omega)
  rw [hA] at h221
  conv => whnf
  refine ⟨[], _, y216 a (by omega), ?_⟩
  conv => whnf
  refine ⟨[], _, y216 b (by omega), ?_⟩
  conv => whnf
  refine ⟨[], _, h267, ?_⟩
  conv => whnf
  refine ⟨[], _, h221, ?_⟩
  conv => whnf
  exact ⟨leA_refl rfl, leH_nil⟩
def cmpGo (a b : List Int) : Nat → Int
  | 0 => 0
  | n + 1 => if a[n]?.getD 0 < b[n]?.getD 0 then -1 else if b[n]?.getD 0 < a[n]?.getD 0 then 1 else cmpGo a b n
def cmpL (a b : List Int) : Int := if (trL a).length < (trL b).length then -1 else if (trL b).length < (trL a).length then 1 else cmpGo (trL a) (trL b) (trL a).length
theorem y177 (a b : List Int) (hal : a.length ≤ 1000000) (hbl : b.length ≤ 1000000) : Fn 177 [] [.sl .u32 a, .sl .u32 b] (.int .i64 (cmpL a b)) [] := by
  have hta := trL_len a
  have htb := trL_len b
  have ha := y216 a (by omega)
  have hb := y216 b (by omega)
  obtain ⟨A, hA⟩ : ∃ A, cmpL a b = A := ⟨_, rfl⟩
  rw [hA]
  unfold cmpL at hA
  generalize trL a = s at hta ha hA
  generalize trL b = t at htb hb hA
  refine fnT hT4 hmx Tryz.func177 rfl rfl (ex := []) ?_
  conv => whnf
  refine ⟨[], _, ha, ?_⟩
  conv => whnf
  refine ⟨[], _, hb, ?_⟩
  conv => whnf
  refine brI (fun h1 => ?_) (fun h1 => ?_)
  · have h1 : ((s.length : Int) != (t.length : Int)) = true := h1
    have h1 : (s.length : Int) ≠ t.length := by simpa using h1
    conv => whnf
    refine brI (fun h2 => ?_) (fun h2 => ?_)
    · have h2 : s.length < t.length := by simp only [decide_eq_true_eq] at h2; omega
      rw [if_pos h2] at hA
      subst hA
      conv => whnf
      exact ⟨leA_refl rfl, leH_nil⟩
    · have h2 : ¬ s.length < t.length := by simp only [decide_eq_false_iff_not] at h2; omega
      rw [if_neg h2, if_pos (by omega)] at hA
      subst hA
      conv => whnf
      exact ⟨leA_refl rfl, leH_nil⟩
  have h1 : ((s.length : Int) != (t.length : Int)) = false := h1
  have h1 : (s.length : Int) = t.length := by simpa using h1
  rw [if_neg (by omega), if_neg (by omega)] at hA
  conv => whnf
  rw [wI (x := (s.length : Int) - 1) (by omega)]
  refine ⟨Nat, fun n => n ≤ s.length ∧ cmpGo s t n = A, fun n => [(5, .int .i64 ((n : Int) - 1))], fun _ => [], fun n => n, s.length, ⟨Nat.le_refl _, hA⟩, ?_, fun n hn => ?_⟩
  · ((conv => whnf); refine And.intro ?_ ?_; repeat' first | refine leL_cons ?_ ?_ | exact leA_any | exact leA_refl rfl | exact leL_nil | refine leH_cons ?_ ?_ | exact leH_nil | exact leB_free | exact leB_dead | refine leB_cells ?_ | exact leB_map rfl | exact leB_gst rfl | exact leA_nil rfl | refine leA_agg ?_ | refine leA_tup ?_ | fail)
  (refine ⟨by kernel_rfl, ?_⟩; (conv => whnf))
  obtain ⟨hn1, hn2⟩ := hn
  refine brI (fun h2 => ?_) (fun h2 => ?_)
  · have h2 : 0 < n := by simp only [decide_eq_true_eq] at h2; omega
    obtain ⟨m, rfl⟩ : ∃ m, n = m + 1 := ⟨n - 1, by omega⟩
    have hm : (((m + 1 : Nat) : Int) - 1) = (m : Int) := by omega
    have hms : m < s.length := by omega
    have hmt : m < t.length := by omega
    have hxs : s[m]? = some s[m] := List.getElem?_eq_getElem hms
    have hxt : t[m]? = some t[m] := List.getElem?_eq_getElem hmt
    obtain ⟨x, hx⟩ : ∃ x : Int, s[m] = x := ⟨_, rfl⟩
    obtain ⟨y, hy⟩ : ∃ y : Int, t[m] = y := ⟨_, rfl⟩
    rw [hx] at hxs; rw [hy] at hxt
    simp only [cmpGo, hxs, hxt, Option.getD_some] at hn2
    conv => whnf
    rw [hm]
    refine ⟨⟨by omega, by omega⟩, fun (z : Int) hz => ?_⟩
    have hz : s[m]? = some z := by simpa using hz
    rw [hxs] at hz; cases hz
    conv => whnf
    refine ⟨⟨by omega, by omega⟩, fun (z : Int) hz => ?_⟩
    have hz : t[m]? = some z := by simpa using hz
    rw [hxt] at hz; cases hz
    conv => whnf
    (refine ⟨by kernel_rfl, by kernel_rfl, ?_⟩; (conv => whnf))
    refine brI (fun h3 => ?_) (fun h3 => ?_)
    · have h3 : x < y := by simpa using h3
      rw [if_pos h3] at hn2
      conv => whnf
      exact ⟨leA_int hn2, leH_nil⟩
    have h3 : ¬ x < y := by simpa using h3
    rw [if_neg h3] at hn2
    conv => whnf
    refine ⟨⟨by omega, by omega⟩, fun (z : Int) hz => ?_⟩
    have hz : s[m]? = some z := by simpa using hz
    rw [hxs] at hz; cases hz
    conv => whnf
    refine ⟨⟨by omega, by omega⟩, fun (z : Int) hz => ?_⟩
    have hz : t[m]? = some z := by simpa using hz
    rw [hxt] at hz; cases hz
    conv => whnf
    (refine ⟨by kernel_rfl, by kernel_rfl, ?_⟩; (conv => whnf))
    refine brI (fun h4 => ?_) (fun h4 => ?_)
    · have h4 : y < x := by simpa using h4
      rw [if_pos h4] at hn2
      conv => whnf
      exact ⟨leA_int hn2, leH_nil⟩
    have h4 : ¬ y < x := by simpa using h4
    rw [if_neg h4] at hn2
    conv => whnf
    refine ⟨m, ⟨by omega, hn2⟩, by show m < m + 1; omega, ?_⟩
    ((conv => whnf); refine And.intro ?_ ?_; repeat' first | refine leL_cons ?_ ?_ | exact leA_any | exact leA_refl rfl | exact leL_nil | refine leH_cons ?_ ?_ | exact leH_nil | exact leB_free | exact leB_dead | refine leB_cells ?_ | exact leB_map rfl | exact leB_gst rfl | exact leA_nil rfl | refine leA_agg ?_ | refine leA_tup ?_ | fail)
    exact leA_int (by rw [wI (by omega)])
  · have h2 : n = 0 := by simp only [decide_eq_false_iff_not] at h2; omega
    subst h2
    simp only [cmpGo] at hn2
    conv => whnf
    exact ⟨leA_int hn2, leH_nil⟩
end Go.Proofs.YtnijmbnkcmhfpaaGreatDoor

/-
  Dyadic numbers: valid ones, canonical forms.
-/
namespace Go.Proofs.YtnijmbnkcmhfpaaGreatDoor
open Go Go.Sx
set_option maxRecDepth 100000
set_option maxHeartbeats 8000000
def d0 : Dy := ⟨false, [], 0⟩
theorem leD0 {h h' : Hp} : leA h h' (.agg [.bool false, .nilsl, .int .i64 0]) (.agg (dyC d0)) := leA_agg (leL_cons (leA_refl rfl) (leL_cons (leA_nil rfl) (leL_cons (leA_refl rfl) leL_nil)))
theorem btL_bd {l : List Int} (h : LB l) : 0 ≤ btL l ∧ btL l ≤ 32 * l.length ∧ (btL l = 0 ↔ trL l = []) ∧ (0 < (trL l).length → 32 * ((trL l).length - 1) < btL l) := by
  have htl := trL_len l
  have hb := h.tr
  unfold btL
  cases hg : (trL l).getLast? with
  | none =>
    rw [List.getLast?_eq_none_iff] at hg
    simp only [hg, List.length_nil]
    exact ⟨by omega, by omega, by simp, by omega⟩
  | some x =>
    have hm : x ∈ trL l := List.mem_of_getLast? hg
    have hx := hb x hm
    have hlen : 0 < (trL l).length := List.length_pos_of_mem hm
    have hle := bitLen_le (x := x.toNat) (by omega)
    have hx0 : x ≠ 0 := by
      rcases trN_last l l.length with h1 | ⟨m, y, h1, h2, h3⟩
      · have : trL l = [] := by rw [trL, h1]; simp
        rw [this] at hm; cases hm
      · have h4 : (trL l).getLast? = some y := by
          have hml := (List.getElem?_eq_some_iff.1 h2).1
          rw [List.getLast?_eq_getElem?, trL, h1, List.length_take, List.getElem?_take, if_pos (by omega)]
          rw [show min (m + 1) l.length - 1 = m by omega]; exact h2
        rw [hg] at h4; cases h4; exact h3
    have hpos : 1 ≤ Lib.bitLen x.toNat := by
      rw [Lib.bitLen_half x.toNat (by omega) (by omega)]; omega
    simp only
    refine ⟨by omega, by omega, ⟨fun h => by omega, fun h => by rw [h] at hlen; simp at hlen⟩, fun _ => by omega⟩
theorem LB.dn {l : List Int} (h : LB l) : LB (dnL l).1 := by
  unfold dnL; split
  · exact fun x hx => by cases hx
  · exact h.tr
theorem LB.shr (l : List Int) (n : Nat) : LB (shrL l n) := by
  unfold shrL
  split
  · exact fun x hx => by cases hx
  · intro x hx
    simp only [shrGo, List.mem_map] at hx
    obtain ⟨i, _, rfl⟩ := hx
    unfold shrAt; omega
theorem LB.shrR (l : List Int) (n : Int) : LB (shrR l n).1 := by
  unfold Go.Proofs.YtnijmbnkcmhfpaaGreatDoor.shrR; split
  · exact fun x hx => by cases hx
  · split
    · exact fun x hx => by cases hx
    · exact (LB.shr _ _).dn
theorem dnL_len (l : List Int) : (dnL l).1.length ≤ 256 := by
  unfold dnL; split
  · simp
  · simp only; omega
theorem shrR_len (l : List Int) (n : Int) : (shrR l n).1.length ≤ 256 := by
  unfold Go.Proofs.YtnijmbnkcmhfpaaGreatDoor.shrR; split
  · simp
  · split
    · simp
    · exact dnL_len _
def irB (d : Dy) : Bool := decide (btL d.m = 0) || (decide (btL d.m ≤ 4096) && decide (-16384 ≤ d.e) && decide (d.e ≤ 16384) && decide (btL d.m + d.e ≤ 16384))
theorem y123 (d : Dy) (hb : LB d.m) (hl : d.m.length ≤ 1000000) : Fn 123 [] [.agg (dyC d)] (.bool (irB d)) [] := by
  obtain ⟨neg, m, e⟩ := d
  simp only at hb hl
  have h175 := y175 m hb hl
  have hbd := btL_bd hb
  unfold irB
  simp only
  generalize btL m = n at h175 hbd
  show Fn 123 [] [.agg [.bool neg, .sl .u32 m, .int .i64 e]] _ []
  refine fnT hT4 hmx Tryz.func123 rfl rfl (ex := []) ?_
  conv => whnf
  refine ⟨[], _, h175, ?_⟩
  conv => whnf
  refine brI (fun h1 => ?_) (fun h1 => ?_)
  · have h1 : n = 0 := by simpa using h1
    conv => whnf
    exact ⟨leA_bool (by simp [h1]), leH_nil⟩
  have h1 : ¬ n = 0 := by simpa using h1
  conv => whnf
  refine brI (fun h2 => ?_) (fun h2 => ?_)
  rotate_left
  · have h2 : ¬ n ≤ 4096 := by simpa using h2
    conv => whnf
    exact ⟨leA_bool (by simp [h1, h2]), leH_nil⟩
  have h2 : n ≤ 4096 := by simpa using h2
  conv => whnf
  refine brI (fun h3 => ?_) (fun h3 => ?_)
  rotate_left
  · have h3 : ¬ -16384 ≤ e := by simpa using h3
    conv => whnf
    exact ⟨leA_bool (by simp [h1, h2, h3]), leH_nil⟩
  have h3 : -16384 ≤ e := by simpa using h3
  conv => whnf
  refine brI (fun h4 => ?_) (fun h4 => ?_)
  rotate_left
  · have h4 : ¬ e ≤ 16384 := by simpa using h4
    conv => whnf
    exact ⟨leA_bool (by simp [h1, h2, h3, h4]), leH_nil⟩
  have h4 : e ≤ 16384 := by simpa using h4
  conv => whnf
  refine ⟨leA_bool ?_, leH_nil⟩
  rw [wI (by omega)]
  simp [h1, h2, h3, h4]
/-- A number is canonical and in range. -/
def vB (d : Dy) : Bool := if d.m.length = 0 then !d.neg && decide (d.e = 0) else decide (d.m.length ≤ 256) && decide ((d.m[0]?.getD 0).tmod 2 = 1) && decide ((d.m.getLast?).getD 0 ≠ 0) && irB d
theorem y80 (d : Dy) (hb : LB d.m) (hl : d.m.length ≤ 1000000) : Fn 80 [] [.agg (dyC d)] (.bool (vB d)) [] := by
  have h123 := y123 d hb hl
  obtain ⟨R, hR⟩ : ∃ R, irB d = R := ⟨_, rfl⟩
  obtain ⟨A, hA⟩ : ∃ A, vB d = A := ⟨_, rfl⟩
  rw [hA]
  unfold vB at hA
  rw [hR] at hA h123
  obtain ⟨neg, m, e⟩ := d
  simp only at hb hl hA
  have h123 : Fn 123 [] [.agg [.bool neg, .sl .u32 m, .int .i64 e]] (.bool R) [] := h123
  show Fn 80 [] [.agg [.bool neg, .sl .u32 m, .int .i64 e]] _ []
  refine fnT hT4 hmx Tryz.func80 rfl rfl (ex := []) ?_
  conv => whnf
  refine brI (fun h1 => ?_) (fun h1 => ?_)
  · have h1 : m.length = 0 := by
      have h1 : ((m.length : Int) == 0) = true := h1
      rw [beq_iff_eq] at h1; omega
    rw [if_pos h1] at hA
    subst hA
    cases neg with
    | true =>
      conv => whnf
      exact ⟨leA_bool (by simp), leH_nil⟩
    | false =>
      conv => whnf
      exact ⟨leA_bool (by rw [Bool.eq_iff_iff]; simp), leH_nil⟩
  have h1 : m.length ≠ 0 := by
    have h1 : ((m.length : Int) == 0) = false := h1
    rw [beq_eq_false_iff_ne] at h1; omega
  rw [if_neg h1] at hA
  conv => whnf
  refine brI (fun h2 => ?_) (fun h2 => ?_)
  rotate_left
  · have h2 : ¬ m.length ≤ 256 := by simp only [decide_eq_false_iff_not] at h2; omega
    rw [decide_eq_false h2] at hA
    subst hA
    conv => whnf
    exact ⟨leA_bool (by simp), leH_nil⟩
  have h2 : m.length ≤ 256 := by simp only [decide_eq_true_eq] at h2; omega
  rw [decide_eq_true h2, Bool.true_and] at hA
  conv => whnf
  refine ⟨⟨by omega, by omega⟩, fun (x : Int) hx => ?_⟩
  have hx : m[0]? = some x := hx
  rw [hx] at hA
  simp only [Option.getD_some] at hA
  conv => whnf
  refine ⟨by omega, ?_⟩
  conv => whnf
  refine brI (fun h3 => ?_) (fun h3 => ?_)
  rotate_left
  · have h3 : ¬ x.tmod 2 = 1 := by simpa using h3
    rw [decide_eq_false h3] at hA
    subst hA
    conv => whnf
    exact ⟨leA_bool (by simp), leH_nil⟩
  have h3 : x.tmod 2 = 1 := by simpa using h3
  rw [decide_eq_true h3, Bool.true_and] at hA
  conv => whnf
  rw [wI (x := (m.length : Int) - 1) (by omega)]
  refine ⟨⟨by omega, by omega⟩, fun (y : Int) hy => ?_⟩
  have hy : m.getLast? = some y := by
    have hy : m[((m.length : Int) - 1).toNat]? = some y := hy
    rw [List.getLast?_eq_getElem?, ← hy]; congr 1; omega
  rw [hy] at hA
  simp only [Option.getD_some] at hA
  conv => whnf
  refine brI (fun h4 => ?_) (fun h4 => ?_)
  rotate_left
  · have h4 : ¬ y ≠ 0 := by simpa using h4
    rw [decide_eq_false h4] at hA
    subst hA
    conv => whnf
    exact ⟨leA_bool (by simp), leH_nil⟩
  have h4 : y ≠ 0 := by simpa using h4
  rw [decide_eq_true h4, Bool.true_and] at hA
  subst hA
  conv => whnf
  refine ⟨[], _, h123, ?_⟩
  conv => whnf
  exact ⟨leA_refl rfl, leH_nil⟩
end Go.Proofs.YtnijmbnkcmhfpaaGreatDoor

/-
  Dyadic numbers: Make, Neg, Sign, Cmp.
-/
namespace Go.Proofs.YtnijmbnkcmhfpaaGreatDoor
open Go Go.Sx
set_option maxRecDepth 100000
set_option maxHeartbeats 8000000
abbrev dyV (p : Dy × Int) : AV := .tup [.agg (dyC p.1), .int .i64 p.2]
theorem leDe {h h' : Hp} {e : Int} : leA h h' (.tup [.agg [.bool false, .nilsl, .int .i64 0], .int .i64 e]) (dyV (d0, e)) := leA_tup (leL_cons leD0 (leL_cons (leA_refl rfl) leL_nil))
def ckD (d : Dy) : Dy × Int := if irB d = true then (d, 0) else (d0, 9)
theorem y269 (d : Dy) (hb : LB d.m) (hl : d.m.length ≤ 1000000) : Fn 269 [] [.agg (dyC d)] (dyV (ckD d)) [] := by
  have h123 := y123 d hb hl
  obtain ⟨A, hA⟩ : ∃ A, ckD d = A := ⟨_, rfl⟩
  rw [hA]
  unfold ckD at hA
  obtain ⟨neg, m, e⟩ := d
  have h123 : Fn 123 [] [.agg [.bool neg, .sl .u32 m, .int .i64 e]] (.bool (irB ⟨neg, m, e⟩)) [] := h123
  show Fn 269 [] [.agg [.bool neg, .sl .u32 m, .int .i64 e]] _ []
  refine fnT hT4 hmx Tryz.func269 rfl rfl (ex := []) ?_
  conv => whnf
  refine cbI [] _ h123 (fun h1 => ?_) (fun h1 => ?_)
  · rw [if_pos h1] at hA
    subst hA
    conv => whnf
    exact ⟨leA_refl rfl, leH_nil⟩
  · rw [if_neg (by rw [h1]; simp)] at hA
    subst hA
    conv => whnf
    exact ⟨leDe, leH_nil⟩
def exB (e : Int) : Bool := decide (-32768 ≤ e) && decide (e ≤ 32768)
theorem y268 (e : Int) : Fn 268 [] [.int .i64 e] (.bool (exB e)) [] := by
  refine fnT hT4 hmx Tryz.func268 rfl rfl (ex := []) ?_
  conv => whnf
  refine brI (fun h1 => ?_) (fun h1 => ?_)
  · have h1 : -32768 ≤ e := by simpa using h1
    conv => whnf
    exact ⟨leA_bool (by simp [exB, h1]), leH_nil⟩
  · have h1 : ¬ -32768 ≤ e := by simpa using h1
    conv => whnf
    exact ⟨leA_bool (by simp [exB, h1]), leH_nil⟩
/-- The canonical form. -/
def cnD (neg : Bool) (m : List Int) (e : Int) : Dy := if (trL m).length = 0 then d0 else ⟨neg, (shrR (trL m) (lwL (trL m) 0)).1, e + lwL (trL m) 0⟩
theorem lwL_bd : ∀ (l : List Int) (n : Int), LB l → n ≤ lwL l n ∧ lwL l n ≤ n + 32 * l.length
  | [], n, _ => by simp [lwL]
  | x :: l, n, h => by
    have hx := h x List.mem_cons_self
    have ih := lwL_bd l (n + 32) fun y hy => h y (List.mem_cons_of_mem _ hy)
    simp only [lwL, List.length_cons]
    split
    · omega
    · rename_i h0
      have := (Lib.lowest_bit 32 x.toNat (by omega) (by omega)).2
      omega
theorem y122 (neg : Bool) (m : List Int) (e : Int) (hb : LB m) (hl : m.length ≤ 100000) (he : -1000000000 ≤ e ∧ e ≤ 1000000000) : Fn 122 G0 [.bool neg, .sl .u32 m, .int .i64 e] (.agg (dyC (cnD neg m e))) G0 := by
  obtain ⟨A, hA⟩ : ∃ A, cnD neg m e = A := ⟨_, rfl⟩
  rw [hA]
  unfold cnD at hA
  have htl := trL_len m
  have h170 := y170 m (by omega)
  have hb2 := hb.tr
  generalize trL m = t at htl h170 hb2 hA
  have hlw := lwL_bd t 0 hb2
  have h171 := y171 t hb2 (by omega)
  generalize lwL t 0 = n at hA hlw h171
  have h172 := y172 t n hb2 (by omega)
  have hsl := shrR_len t n
  obtain ⟨⟨x, err⟩, hx⟩ : ∃ X, shrR t n = X := ⟨_, rfl⟩
  rw [hx] at hA h172 hsl
  simp only at hA hsl
  have h174 := y174 x (by omega)
  have h173 := y173 x (by omega)
  refine fnT hT4 hmx Tryz.func122 rfl rfl (ex := []) ?_
  conv => whnf
  refine ⟨[], _, h170, ?_⟩
  conv => whnf
  refine brI (fun h1 => ?_) (fun h1 => ?_)
  · have h1 : t.length = 0 := by
      have h1 : ((t.length : Int) == 0) = true := h1
      rw [beq_iff_eq] at h1; omega
    rw [if_pos h1] at hA
    subst hA
    conv => whnf
    exact ⟨leD0, leG⟩
  have h1 : t.length ≠ 0 := by
    have h1 : ((t.length : Int) == 0) = false := h1
    rw [beq_eq_false_iff_ne] at h1; omega
  rw [if_neg h1] at hA
  subst hA
  conv => whnf
  refine ⟨[.gst JT], _, h171, ?_⟩
  conv => whnf
  refine ⟨[], _, h172, ?_⟩
  conv => whnf
  refine ⟨[], _, h174, ?_⟩
  conv => whnf
  refine ⟨[], _, h173, ?_⟩
  conv => whnf
  refine ⟨leA_agg (leL_cons (leA_refl rfl) (leL_cons (leA_refl rfl) (leL_cons (leA_int ?_) leL_nil))), leG⟩
  rw [wI (by omega)]
theorem cnD_lb (neg : Bool) (m : List Int) (e : Int) : LB (cnD neg m e).m ∧ (cnD neg m e).m.length ≤ 256 := by
  unfold cnD
  split
  · refine ⟨fun x hx => ?_, by simp [d0]⟩
    cases hx
  · exact ⟨LB.shrR _ _, shrR_len _ _⟩
def mkD (neg : Bool) (m : List Int) (e : Int) : Dy × Int := if 256 < m.length ∨ exB e = false then (d0, 1) else ckD (cnD neg m e)
theorem y265 (neg : Bool) (m : List Int) (e : Int) (hb : LB m) (hl : m.length ≤ 100000) (he : -1000000000 ≤ e ∧ e ≤ 1000000000) : Fn 265 G0 [.bool neg, .sl .u32 m, .int .i64 e] (dyV (mkD neg m e)) G0 := by
  obtain ⟨A, hA⟩ : ∃ A, mkD neg m e = A := ⟨_, rfl⟩
  rw [hA]
  unfold mkD at hA
  have h122 := y122 neg m e hb hl he
  obtain ⟨hc1, hc2⟩ := cnD_lb neg m e
  have h269 := y269 (cnD neg m e) hc1 (by omega)
  have h268 := y268 e
  obtain ⟨B, hB⟩ : ∃ B, ckD (cnD neg m e) = B := ⟨_, rfl⟩
  rw [hB] at h269 hA
  generalize cnD neg m e = c at h122 h269
  obtain ⟨c1, c2, c3⟩ := c
  obtain ⟨⟨b1, b2, b3⟩, b4⟩ := B
  refine fnT hT4 hmx Tryz.func265 rfl rfl (ex := []) ?_
  conv => whnf
  refine brI (fun h1 => ?_) (fun h1 => ?_)
  · rw [if_pos (.inl (by simp only [decide_eq_true_eq] at h1; omega))] at hA
    subst hA
    conv => whnf
    exact ⟨leDe, leG⟩
  have h1 : ¬ 256 < m.length := by simp only [decide_eq_false_iff_not] at h1; omega
  conv => whnf
  refine cbI [] _ h268 (fun h2 => ?_) (fun h2 => ?_)
  rotate_left
  · rw [if_pos (.inr h2)] at hA
    subst hA
    conv => whnf
    exact ⟨leDe, leG⟩
  rw [if_neg (by rw [h2]; simp; omega)] at hA
  subst hA
  conv => whnf
  refine ⟨[.gst JT], _, h122, ?_⟩
  conv => whnf
  refine ⟨[], _, h269, ?_⟩
  conv => whnf
  exact ⟨leA_refl rfl, leG⟩
def sgD (d : Dy) : Int := if vB d = false ∨ d.m.length = 0 then 0 else if d.neg = true then -1 else 1
theorem y124 (d : Dy) (hb : LB d.m) (hl : d.m.length ≤ 1000000) : Fn 124 [] [.agg (dyC d)] (.int .i64 (sgD d)) [] := by
  have h80 := y80 d hb hl
  obtain ⟨A, hA⟩ : ∃ A, sgD d = A := ⟨_, rfl⟩
  rw [hA]
  unfold sgD at hA
  obtain ⟨neg, m, e⟩ := d
  simp only at hl hA
  have h80 : Fn 80 [] [.agg [.bool neg, .sl .u32 m, .int .i64 e]] (.bool (vB ⟨neg, m, e⟩)) [] := h80
  show Fn 124 [] [.agg [.bool neg, .sl .u32 m, .int .i64 e]] _ []
  refine fnT hT4 hmx Tryz.func124 rfl rfl (ex := []) ?_
  conv => whnf
  refine cbI [] _ h80 (fun h1 => ?_) (fun h1 => ?_)
  rotate_left
  · rw [if_pos (.inl h1)] at hA
    subst hA
    conv => whnf
    exact ⟨leA_refl rfl, leH_nil⟩
  conv => whnf
  refine brI (fun h2 => ?_) (fun h2 => ?_)
  · have h2 : m.length = 0 := by
      have h2 : ((m.length : Int) == 0) = true := h2
      rw [beq_iff_eq] at h2; omega
    rw [if_pos (.inr h2)] at hA
    subst hA
    conv => whnf
    exact ⟨leA_refl rfl, leH_nil⟩
  have h2 : m.length ≠ 0 := by
    have h2 : ((m.length : Int) == 0) = false := h2
    rw [beq_eq_false_iff_ne] at h2; omega
  rw [if_neg (by rw [h1]; simp; exact fun h => h2 (by rw [h]; rfl))] at hA
  conv => whnf
  cases neg with
  | true =>
    rw [if_pos rfl] at hA
    subst hA
    conv => whnf
    exact ⟨leA_refl rfl, leH_nil⟩
  | false =>
    rw [if_neg (by simp)] at hA
    subst hA
    conv => whnf
    exact ⟨leA_refl rfl, leH_nil⟩
def ngD (d : Dy) : Dy := if vB d = false ∨ d.m.length = 0 then d0 else ⟨!d.neg, d.m, d.e⟩
theorem y135 (d : Dy) (hb : LB d.m) (hl : d.m.length ≤ 1000000) : Fn 135 [] [.agg (dyC d)] (.agg (dyC (ngD d))) [] := by
  have h80 := y80 d hb hl
  obtain ⟨A, hA⟩ : ∃ A, ngD d = A := ⟨_, rfl⟩
  rw [hA]
  unfold ngD at hA
  obtain ⟨neg, m, e⟩ := d
  simp only at hl hA
  have h80 : Fn 80 [] [.agg [.bool neg, .sl .u32 m, .int .i64 e]] (.bool (vB ⟨neg, m, e⟩)) [] := h80
  have h174 := y174 m hl
  show Fn 135 [] [.agg [.bool neg, .sl .u32 m, .int .i64 e]] _ []
  refine fnT hT4 hmx Tryz.func135 rfl rfl (ex := []) ?_
  conv => whnf
  refine cbI [] _ h80 (fun h1 => ?_) (fun h1 => ?_)
  rotate_left
  · rw [if_pos (.inl h1)] at hA
    subst hA
    conv => whnf
    exact ⟨leD0, leH_nil⟩
  conv => whnf
  refine brI (fun h2 => ?_) (fun h2 => ?_)
  · have h2 : m.length = 0 := by
      have h2 : ((m.length : Int) == 0) = true := h2
      rw [beq_iff_eq] at h2; omega
    rw [if_pos (.inr h2)] at hA
    subst hA
    conv => whnf
    exact ⟨leD0, leH_nil⟩
  have h2 : m.length ≠ 0 := by
    have h2 : ((m.length : Int) == 0) = false := h2
    rw [beq_eq_false_iff_ne] at h2; omega
  rw [if_neg (by rw [h1]; simp; exact fun h => h2 (by rw [h]; rfl))] at hA
  subst hA
  conv => whnf
  refine ⟨[], _, h174, ?_⟩
  conv => whnf
  (refine ⟨by kernel_rfl, by kernel_rfl, ?_⟩; (conv => whnf))
  exact ⟨leA_refl rfl, leH_nil⟩
end Go.Proofs.YtnijmbnkcmhfpaaGreatDoor

/-
  Dyadic numbers: Cmp; rounding of small numbers.
-/
namespace Go.Proofs.YtnijmbnkcmhfpaaGreatDoor
open Go Go.Sx
set_option maxRecDepth 100000
set_option maxHeartbeats 8000000
def d1 : Dy := ⟨false, [1], 0⟩
def dm : Dy := ⟨true, [1], 0⟩
theorem LB0 : LB [] := fun _ hx => nomatch hx
theorem LB1 : LB [1] := fun x hx => by
  have : x = 1 := by simpa using hx
  omega
/-- The order of numbers of different signs. -/
def cmS (a b : Dy) : Int := if vB a = false ∨ vB b = false then 0 else if sgD a < sgD b then -1 else if sgD b < sgD a then 1 else 0
theorem y81 (a b : Dy) (ha : LB a.m) (hb : LB b.m) (hal : a.m.length ≤ 1000000) (hbl : b.m.length ≤ 1000000) (hs : sgD a = sgD b → sgD a = 0) : Fn 81 [] [.agg (dyC a), .agg (dyC b)] (.int .i64 (cmS a b)) [] := by
  have a80 := y80 a ha hal
  have b80 := y80 b hb hbl
  have a124 := y124 a ha hal
  have b124 := y124 b hb hbl
  obtain ⟨A, hA⟩ : ∃ A, cmS a b = A := ⟨_, rfl⟩
  rw [hA]
  unfold cmS at hA
  generalize sgD a = s at a124 hA hs
  generalize sgD b = t at b124 hA hs
  generalize vB a = va at a80 hA
  generalize vB b = vb at b80 hA
  obtain ⟨a1, a2, a3⟩ := a
  obtain ⟨b1, b2, b3⟩ := b
  refine fnT hT4 hmx Tryz.func81 rfl rfl (ex := []) ?_
  conv => whnf
  refine cbI [] _ a80 (fun h1 => ?_) (fun h1 => ?_)
  rotate_left
  · rw [if_pos (.inl h1)] at hA
    subst hA
    conv => whnf
    exact ⟨leA_refl rfl, leH_nil⟩
  conv => whnf
  refine cbI [] _ b80 (fun h2 => ?_) (fun h2 => ?_)
  rotate_left
  · rw [if_pos (.inr h2)] at hA
    subst hA
    conv => whnf
    exact ⟨leA_refl rfl, leH_nil⟩
  rw [if_neg (by rw [h1, h2]; simp)] at hA
  conv => whnf
  refine ⟨[], _, a124, ?_⟩
  conv => whnf
  refine ⟨[], _, b124, ?_⟩
  conv => whnf
  (refine ⟨by kernel_rfl, by kernel_rfl, ?_⟩; (conv => whnf))
  refine brI (fun h3 => ?_) (fun h3 => ?_)
  · rw [if_pos (by simpa using h3)] at hA
    subst hA
    conv => whnf
    exact ⟨leA_refl rfl, leH_nil⟩
  have h3 : ¬ s < t := by simpa using h3
  rw [if_neg h3] at hA
  conv => whnf
  refine brI (fun h4 => ?_) (fun h4 => ?_)
  · rw [if_pos (by simpa using h4)] at hA
    subst hA
    conv => whnf
    exact ⟨leA_refl rfl, leH_nil⟩
  have h4 : ¬ t < s := by simpa using h4
  rw [if_neg h4] at hA
  subst hA
  have h5 := hs (by omega)
  subst h5
  conv => whnf
  exact ⟨leA_refl rfl, leH_nil⟩
def pcB (p : Int) : Bool := decide (8 ≤ p) && decide (p ≤ 512)
theorem y214 (p : Int) : Fn 214 [] [.int .i64 p] (.bool (pcB p)) [] := by
  refine fnT hT4 hmx Tryz.func214 rfl rfl (ex := []) ?_
  conv => whnf
  refine brI (fun h1 => ?_) (fun h1 => ?_)
  · have h1 : 8 ≤ p := by simpa using h1
    conv => whnf
    exact ⟨leA_bool (by simp [pcB, h1]), leH_nil⟩
  · have h1 : ¬ 8 ≤ p := by simpa using h1
    conv => whnf
    exact ⟨leA_bool (by simp [pcB, h1]), leH_nil⟩
def ftD (p : Int) (l : List Dy) : Int := if l.any (fun d => !vB d) = true then 1 else if pcB p = false then 2 else 0
theorem y164 (p : Int) (l : List Dy) (hb : ∀ d ∈ l, LB d.m ∧ d.m.length ≤ 1000000) (hl : l.length ≤ 1000000) : Fn 164 [] [.int .i64 p, .sl .dy l] (.int .i64 (ftD p l)) [] := by
  obtain ⟨A, hA⟩ : ∃ A, ftD p l = A := ⟨_, rfl⟩
  rw [hA]
  unfold ftD at hA
  refine fnT hT4 hmx Tryz.func164 rfl rfl (ex := []) ?_
  conv => whnf
  refine ⟨Nat, fun i => i ≤ l.length ∧ (l.drop i).any (fun d => !vB d) = l.any (fun d => !vB d), fun i => [(9, .int .i64 i)], fun _ => [], fun i => l.length - i, 0, ⟨by simp, by simp⟩, ?_, fun i hi => ?_⟩
  · ((conv => whnf); refine And.intro ?_ ?_; repeat' first | refine leL_cons ?_ ?_ | exact leA_any | exact leA_refl rfl | exact leL_nil | refine leH_cons ?_ ?_ | exact leH_nil | exact leB_free | exact leB_dead | refine leB_cells ?_ | exact leB_map rfl | exact leB_gst rfl | exact leA_nil rfl | refine leA_agg ?_ | refine leA_tup ?_ | fail)
  (refine ⟨by kernel_rfl, ?_⟩; (conv => whnf))
  obtain ⟨hi1, hi2⟩ := hi
  refine brI (fun h1 => ?_) (fun h1 => ?_)
  · conv => whnf
    have hi : i < l.length := by simp only [decide_eq_true_eq] at h1; omega
    refine ⟨⟨by omega, by omega⟩, fun (d : Dy) hd => ?_⟩
    have hd : l[i]? = some d := by simpa using hd
    obtain ⟨hd1, hd2⟩ := hb d (List.mem_of_getElem? hd)
    have h80 := y80 d hd1 hd2
    rw [drop_get hd, List.any_cons] at hi2
    conv => whnf
    refine cbI [] _ h80 (fun h2 => ?_) (fun h2 => ?_)
    · rw [h2] at hi2
      conv => whnf
      refine ⟨i + 1, ⟨by omega, by simpa using hi2⟩, by show l.length - (i + 1) < l.length - i; omega, ?_⟩
      ((conv => whnf); refine And.intro ?_ ?_; repeat' first | refine leL_cons ?_ ?_ | exact leA_any | exact leA_refl rfl | exact leL_nil | refine leH_cons ?_ ?_ | exact leH_nil | exact leB_free | exact leB_dead | refine leB_cells ?_ | exact leB_map rfl | exact leB_gst rfl | exact leA_nil rfl | refine leA_agg ?_ | refine leA_tup ?_ | fail)
      exact leA_int (by rw [wI (by omega)]; omega)
    · rw [h2] at hi2
      rw [if_pos (by rw [← hi2]; simp)] at hA
      subst hA
      conv => whnf
      exact ⟨leA_refl rfl, leH_nil⟩
  have hi : ¬ i < l.length := by simp only [decide_eq_false_iff_not] at h1; omega
  rw [List.drop_of_length_le (by omega)] at hi2
  rw [if_neg (by rw [← hi2]; simp)] at hA
  conv => whnf
  refine cbI [] _ (y214 p) (fun h2 => ?_) (fun h2 => ?_)
  · rw [if_neg (by rw [h2]; simp)] at hA
    subst hA
    conv => whnf
    exact ⟨leA_refl rfl, leH_nil⟩
  · rw [if_pos h2] at hA
    subst hA
    conv => whnf
    exact ⟨leA_refl rfl, leH_nil⟩
abbrev xtV (m : List Int) (e : Int) (b : Bool) : AV := .agg [.sl .u32 m, .int .i64 e, .bool b]
theorem y266 (d : Dy) : Fn 266 [] [.agg (dyC d)] (xtV d.m d.e false) [] := by
  refine fnT hT4 hmx Tryz.func266 rfl rfl (ex := []) ?_
  conv => whnf
  exact ⟨leA_refl rfl, leH_nil⟩
theorem LBb : LB [8388608] := fun x hx => by
  have : x = 8388608 := by simpa using hx
  omega
theorem bt1 : btL [1] = 1 := by decide +kernel
theorem btb : btL [8388608] = 24 := by decide +kernel
theorem sh1 : (shlR [1] 23).1 = [8388608] := by decide +kernel
theorem mk1 : mkD false [8388608] (-23) = (d1, 0) := by decide +kernel
theorem y219 (up : Bool) : Fn 219 G0 [xtV [1] 0 false, .int .i64 24, .bool up] (dyV (d1, 0)) G0 := by
  have h169 := y169 [1] LB1 (by decide)
  rw [bt1] at h169
  have b169 := y169 [8388608] LBb (by decide)
  rw [btb] at b169
  have h167 := y167 [1] 23 LB1 (by decide)
  rw [sh1] at h167
  have h265 := y265 false [8388608] (-23) LBb (by decide) (by decide)
  rw [mk1] at h265
  cases up
  all_goals
    refine fnT hT4 hmx Tryz.func219 rfl rfl (ex := []) ?_
    conv => whnf
    refine ⟨[], _, h169, ?_⟩
    conv => whnf
    (refine ⟨by kernel_rfl, by kernel_rfl, ?_⟩; (conv => whnf))
    (refine ⟨by kernel_rfl, by kernel_rfl, ?_⟩; (conv => whnf))
    refine ⟨[], _, h167, ?_⟩
    conv => whnf
    refine ⟨[], _, b169, ?_⟩
    conv => whnf
    refine ⟨[.gst JT], _, h265, ?_⟩
    conv => whnf
    exact ⟨leA_refl rfl, leG⟩
def pm (neg : Bool) : Dy := ⟨neg, [1], 0⟩
theorem ng1 : ngD d1 = dm := by decide +kernel
theorem y168 (neg up : Bool) : Fn 168 G0 [.bool neg, xtV [1] 0 false, .int .i64 24, .bool up] (dyV (pm neg, 0)) G0 := by
  have h219 := fun u => y219 u
  have h135 := y135 d1 LB1 (by decide)
  rw [ng1] at h135
  cases neg <;> cases up
  all_goals
    refine fnT hT4 hmx Tryz.func168 rfl rfl (ex := []) ?_
    conv => whnf
    refine ⟨[.gst JT], _, h219 _, ?_⟩
    conv => whnf
    first
      | exact ⟨leA_refl rfl, leG⟩
      | (refine ⟨[], _, h135, ?_⟩
         conv => whnf
         exact ⟨leA_refl rfl, leG⟩)
theorem pm_lb (neg : Bool) : LB (pm neg).m ∧ (pm neg).m.length ≤ 1000000 := ⟨LB1, by simp [pm]⟩
theorem ft1 (neg : Bool) : ftD 24 [pm neg] = 0 := by cases neg <;> decide +kernel
theorem y223 (neg up : Bool) : Fn 223 G0 [.agg (dyC (pm neg)), .int .i64 24, .bool up] (dyV (pm neg, 0)) G0 := by
  have h164 := y164 24 [pm neg] (by simpa using pm_lb neg) (by simp)
  rw [ft1] at h164
  have h266 := y266 (pm neg)
  refine fnT hT4 hmx Tryz.func223 rfl rfl (ex := []) ?_
  conv => whnf
  refine ⟨[], _, h164, ?_⟩
  conv => whnf
  refine ⟨[], _, h266, ?_⟩
  conv => whnf
  refine ⟨[.gst JT], _, y168 neg up, ?_⟩
  conv => whnf
  (refine ⟨by kernel_rfl, by kernel_rfl, ?_⟩; (conv => whnf))
  exact ⟨leA_refl rfl, leG⟩
theorem y180z (a b : Dy) (up : Bool) (ha : LB a.m ∧ a.m.length ≤ 1000000) (hb : LB b.m ∧ b.m.length ≤ 1000000) (hf : ftD 24 [a, b] = 0) (h0 : a.m.length = 0 ∨ b.m.length = 0) : Fn 180 G0 [.agg (dyC a), .agg (dyC b), .int .i64 24, .bool up] (dyV (d0, 0)) G0 := by
  have h164 := y164 24 [a, b] (by simpa using ⟨ha, hb⟩) (by simp)
  rw [hf] at h164
  obtain ⟨a1, a2, a3⟩ := a
  obtain ⟨b1, b2, b3⟩ := b
  simp only at h0
  refine fnT hT4 hmx Tryz.func180 rfl rfl (ex := []) ?_
  conv => whnf
  refine ⟨[], _, h164, ?_⟩
  conv => whnf
  refine brI (fun h1 => ?_) (fun h1 => ?_)
  · conv => whnf
    exact ⟨leDe, leG⟩
  · have h1 : ((a2.length : Int) == 0) = false := h1
    rw [beq_eq_false_iff_ne] at h1
    conv => whnf
    refine brI (fun h2 => ?_) (fun h2 => ?_)
    · conv => whnf
      exact ⟨leDe, leG⟩
    · have h2 : ((b2.length : Int) == 0) = false := h2
      rw [beq_eq_false_iff_ne] at h2
      omega
theorem ml1 : mulR [1] [1] = ([1], 0) := by decide +kernel
theorem y180 (up : Bool) : Fn 180 G0 [.agg (dyC d1), .agg (dyC d1), .int .i64 24, .bool up] (dyV (d1, 0)) G0 := by
  have h164 := y164 24 [d1, d1] (by have h : LB d1.m ∧ d1.m.length ≤ 1000000 := pm_lb false; simpa using h) (by simp)
  rw [show ftD 24 [d1, d1] = 0 by decide +kernel] at h164
  have h225 := y225 [1] [1] LB1 LB1 (by simp) (by simp)
  rw [ml1] at h225
  refine fnT hT4 hmx Tryz.func180 rfl rfl (ex := []) ?_
  conv => whnf
  refine ⟨[], _, h164, ?_⟩
  conv => whnf
  refine ⟨[], _, h225, ?_⟩
  conv => whnf
  refine ⟨[.gst JT], _, y168 false up, ?_⟩
  conv => whnf
  exact ⟨leA_refl rfl, leG⟩
theorem y132 (a b c : Dy) (h : Fn 180 G0 [.agg (dyC a), .agg (dyC b), .int .i64 24, .bool false] (dyV (c, 0)) G0) : Fn 132 G0 [.agg (dyC a), .agg (dyC b), .int .i64 24] (dyV (c, 0)) G0 := by
  refine fnT hT4 hmx Tryz.func132 rfl rfl (ex := []) ?_
  conv => whnf
  refine ⟨[.gst JT], _, h, ?_⟩
  conv => whnf
  exact ⟨leA_refl rfl, leG⟩
theorem y133 (a b c : Dy) (h : Fn 180 G0 [.agg (dyC a), .agg (dyC b), .int .i64 24, .bool true] (dyV (c, 0)) G0) : Fn 133 G0 [.agg (dyC a), .agg (dyC b), .int .i64 24] (dyV (c, 0)) G0 := by
  refine fnT hT4 hmx Tryz.func133 rfl rfl (ex := []) ?_
  conv => whnf
  refine ⟨[.gst JT], _, h, ?_⟩
  conv => whnf
  exact ⟨leA_refl rfl, leG⟩
theorem LBd0 : LB d0.m ∧ d0.m.length ≤ 1000000 := ⟨LB0, by decide⟩
theorem y179a (neg up : Bool) : Fn 179 G0 [.agg (dyC d0), .agg (dyC (pm neg)), .int .i64 24, .bool up] (dyV (pm neg, 0)) G0 := by
  have h164 := y164 24 [d0, pm neg] (by simpa using ⟨LBd0, pm_lb neg⟩) (by simp)
  rw [show ftD 24 [d0, pm neg] = 0 by cases neg <;> decide +kernel] at h164
  refine fnT hT4 hmx Tryz.func179 rfl rfl (ex := []) ?_
  conv => whnf
  refine ⟨[], _, h164, ?_⟩
  conv => whnf
  refine ⟨[.gst JT], _, y223 neg up, ?_⟩
  conv => whnf
  exact ⟨leA_refl rfl, leG⟩
theorem y179b (neg up : Bool) : Fn 179 G0 [.agg (dyC (pm neg)), .agg (dyC d0), .int .i64 24, .bool up] (dyV (pm neg, 0)) G0 := by
  have h164 := y164 24 [pm neg, d0] (by simpa using ⟨pm_lb neg, LBd0⟩) (by simp)
  rw [show ftD 24 [pm neg, d0] = 0 by cases neg <;> decide +kernel] at h164
  refine fnT hT4 hmx Tryz.func179 rfl rfl (ex := []) ?_
  conv => whnf
  refine ⟨[], _, h164, ?_⟩
  conv => whnf
  refine ⟨[.gst JT], _, y223 neg up, ?_⟩
  conv => whnf
  exact ⟨leA_refl rfl, leG⟩
theorem y128 (a b c : Dy) (h : Fn 179 G0 [.agg (dyC a), .agg (dyC b), .int .i64 24, .bool false] (dyV (c, 0)) G0) : Fn 128 G0 [.agg (dyC a), .agg (dyC b), .int .i64 24] (dyV (c, 0)) G0 := by
  refine fnT hT4 hmx Tryz.func128 rfl rfl (ex := []) ?_
  conv => whnf
  refine ⟨[.gst JT], _, h, ?_⟩
  conv => whnf
  exact ⟨leA_refl rfl, leG⟩
theorem y129 (a b c : Dy) (h : Fn 179 G0 [.agg (dyC a), .agg (dyC b), .int .i64 24, .bool true] (dyV (c, 0)) G0) : Fn 129 G0 [.agg (dyC a), .agg (dyC b), .int .i64 24] (dyV (c, 0)) G0 := by
  refine fnT hT4 hmx Tryz.func129 rfl rfl (ex := []) ?_
  conv => whnf
  refine ⟨[.gst JT], _, h, ?_⟩
  conv => whnf
  exact ⟨leA_refl rfl, leG⟩
end Go.Proofs.YtnijmbnkcmhfpaaGreatDoor
