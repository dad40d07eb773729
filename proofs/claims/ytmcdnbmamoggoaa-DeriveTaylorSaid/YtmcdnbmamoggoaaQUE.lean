/-
  Simple forms: derive.simplified.
-/
import Derived.Test.YtmcdnbmamoggoaaQUD
set_option linter.unusedVariables false
set_option linter.unusedSimpArgs false
namespace Go.Proofs.Ytmcdnbmamoggoaa
open Go Go.Sx
set_option maxRecDepth 100000
set_option maxHeartbeats 8000000
abbrev SimOK (e : Ex) : Prop := Fn 64 [] [.agg (exC e)] (.agg (exC (simE e))) []
theorem simL_map (l : List Ex) : simL l = l.map simE := by
  induction l with
  | nil => rfl
  | cons x l ih => simp [simL, ih]
/-- derive.simple, of a node whose operands are simple. -/
def SiOK (k n : Int) (l : List Ex) : Prop := Fn 117 [] [exV k ⟨0, 0⟩ [] n l] (.agg (exC (opS k n l))) []
theorem si_one {k : Int} {a : Ex} (hk : K1 k) (ha : VT a) : SiOK k 0 [a] := by
  unfold SiOK opS
  rcases hk with rfl | rfl | rfl | rfl | rfl | rfl
  · exact f117_7 0 a (by omega) (VT_l ha)
  · exact f117_9 0 a (by omega)
  · exact f117_10 0 a (by omega)
  · exact f117_11 0 a (by omega)
  · exact f117_12 0 a (by omega)
  · exact f117_13 0 a (by omega)
theorem si_pow {n : Int} {a : Ex} (hn : n ≤ 1000) : SiOK 8 n [a] := f117_8 n a hn
theorem si_two {k : Int} {a b : Ex} (hk : K2 k) (hb : VT b) : SiOK k 0 [a, b] := by
  unfold SiOK opS
  rcases hk with rfl | rfl | rfl | rfl
  · exact f117_3 a b
  · exact f117_4 a b (VT_l hb)
  · exact f117_5 a b
  · exact f117_6 a b
/-- The body of derive.simplified, of a node with simplified operands. -/
theorem f64_op (k n : Int) (l : List Ex) (h1 : k ≠ 1) (h2 : k ≠ 2) (hl : ∀ x ∈ l, SimOK x) (hlen : l.length ≤ 2) (hs : SiOK k n (l.map simE)) :
    Fn 64 [] [exV k ⟨0, 0⟩ [] n l] (.agg (exC (opS k n (l.map simE)))) [] := by
  refine fnT hT hmx Try.func64 rfl rfl (ex := []) ?_
  conv => whnf
  refine brI (fun h => absurd (by simpa using h) h1) (fun h => ?_)
  conv => whnf
  refine brI (fun h => absurd (by simpa using h) h2) (fun h => ?_)
  conv => whnf
  refine ⟨Nat, fun i => i ≤ l.length, fun i => [(23, .int .i64 i)], fun i => [(3, .cells [.int .i64 k, .int .i64 0, .int .i64 0, .str [], .int .i64 n, .own 32]), (32, .buf 26 .ex ((l.take i).map simE))], fun i => l.length - i, 0, by simp, ?_, fun i hi => ?_⟩
  · ((conv => whnf); refine And.intro ?_ ?_; repeat' first | exact leL_nil | exact leH_nil | exact leA_any | exact leA_refl rfl | exact leA_nil rfl | refine leA_agg ?_ | refine leA_tup ?_ | exact leB_free | exact leB_dead | refine leL_cons ?_ ?_ | refine leH_cons ?_ ?_ | refine leB_cells ?_ | fail)
    · exact trivial
    · exact ⟨rfl, rfl⟩
  · (refine ⟨by kernel_rfl, ?_⟩; (conv => whnf))
    refine brI (fun h3 => ?_) (fun h3 => ?_)
    · conv => whnf
      have h3 : i < l.length := by simp only [decide_eq_true_eq] at h3; omega
      refine ⟨⟨by omega, by omega⟩, fun x hx => ?_⟩
      have hx : l[i]? = some x := by simpa using hx
      have hmem : x ∈ l := List.mem_of_getElem? hx
      conv => whnf
      refine ⟨[], _, hl x hmem, ?_⟩
      conv => whnf
      rw [Ex.eta2]
      refine ⟨by simp only [List.length_map, List.length_take, List.length_cons, List.length_nil]; omega, ?_⟩
      conv => whnf
      (refine ⟨by kernel_rfl, by kernel_rfl, ?_⟩; (conv => whnf))
      refine ⟨i + 1, by show i + 1 ≤ l.length; omega, by show l.length - (i + 1) < l.length - i; omega, ?_⟩
      ((conv => whnf); refine And.intro ?_ ?_; repeat' first | exact leL_nil | exact leH_nil | exact leA_any | exact leA_refl rfl | exact leA_nil rfl | refine leA_agg ?_ | refine leA_tup ?_ | exact leB_free | exact leB_dead | refine leL_cons ?_ ?_ | refine leH_cons ?_ ?_ | refine leB_cells ?_ | fail)
      · exact leA_int (by rw [wI (by omega)]; omega)
      · exact leB_buf (by rw [List.take_add_one, hx]; simp)
    · conv => whnf
      have h3 : ¬ i < l.length := by simp only [decide_eq_false_iff_not] at h3; omega
      rw [List.take_of_length_le (by omega)]
      refine ⟨[], _, hs, ?_⟩
      conv => whnf
      exact ⟨leA_ex rfl, leH_nil⟩
theorem f64_leaf (e : Ex) (h : e.k = 1 ∨ e.k = 2) : SimOK e := by
  have he : simE e = e := by cases e; exact if_pos h
  unfold SimOK
  rw [he]
  refine fnT hT hmx Try.func64 rfl rfl (ex := []) ?_
  conv => whnf
  refine brI (fun h1 => ?_) (fun h1 => ?_)
  · conv => whnf
    exact ⟨leA_ex rfl, leH_nil⟩
  · conv => whnf
    refine brI (fun h2 => ?_) (fun h2 => ?_)
    · conv => whnf
      exact ⟨leA_ex rfl, leH_nil⟩
    · exfalso
      have h1 : e.k ≠ 1 := by simpa using h1
      have h2 : e.k ≠ 2 := by simpa using h2
      omega
theorem f64 {e : Ex} (h : VT e) : SimOK e := by
  induction h with
  | num r hr => exact f64_leaf _ (.inl rfl)
  | var s hs => exact f64_leaf _ (.inr rfl)
  | un k a hk ha ih =>
    unfold SimOK
    rw [sim_one a (K1_ne hk)]
    exact f64_op k 0 [a] (K1_ne hk).1 (K1_ne hk).2 (by simpa using ih) (by simp) (si_one hk (VT_sim ha))
  | pow n a h1 h2 ha ih =>
    unfold SimOK
    rw [sim_one a (by omega)]
    exact f64_op 8 n [a] (by omega) (by omega) (by simpa using ih) (by simp) (si_pow (by omega))
  | bin k a b hk ha hb ih1 ih2 =>
    unfold SimOK
    rw [sim_two a b (K2_ne hk)]
    exact f64_op k 0 [a, b] (K2_ne hk).1 (K2_ne hk).2 (by simpa using ⟨ih1, ih2⟩) (by simp) (si_two hk (VT_sim hb))
end Go.Proofs.Ytmcdnbmamoggoaa
