/-
  Seat .Z: the reference's Put, index.
-/
import Derived.Test.YtmcdnbmamoggoaaGreatQZ0
import Derived.Test.YtmcdnbmamoggoaaGreatQZv
set_option linter.unusedVariables false
set_option linter.unusedSimpArgs false
namespace Go.Proofs.YtmcdnbmamoggoaaGreat
open Go Go.Sx
set_option maxRecDepth 100000
set_option maxHeartbeats 8000000
theorem z61 (l : List Bytes) (s : Bytes) (hlen : l.length < 9223372036854775808) : Fn 61 [] [.sl .str l, .str s] (.int .i64 (ixP (eqS s) l 0)) [] := by
  refine fnT hT hmx Tryz.func61 rfl rfl (ex := []) ?_
  conv => whnf
  refine ⟨Nat, fun i => i ≤ l.length ∧ ixP (eqS s) (l.drop i) i = ixP (eqS s) l 0, fun i => [(5, .int .i64 i)], fun _ => [], fun i => l.length - i, 0, ⟨by simp, rfl⟩, ?_, fun i hi => ?_⟩
  · ((conv => whnf); refine And.intro ?_ ?_; repeat' first | refine leL_cons ?_ ?_ | exact leA_any | exact leA_refl rfl | exact leL_nil | refine leH_cons ?_ ?_ | exact leH_nil | exact leB_free | exact leB_dead | refine leB_cells ?_ | exact leB_map rfl | exact leB_gst rfl | exact leA_nil rfl | refine leA_agg ?_ | refine leA_tup ?_ | fail)
  (refine ⟨by kernel_rfl, ?_⟩; (conv => whnf))
  obtain ⟨hi1, hi2⟩ := hi
  refine brI (fun h1 => ?_) (fun h1 => ?_)
  · conv => whnf
    have hi : i < l.length := by simp only [decide_eq_true_eq] at h1; omega
    refine ⟨⟨by omega, by omega⟩, fun x hx => ?_⟩
    have hx : l[i]? = some x := by simpa using hx
    rw [drop_get hx] at hi2
    simp only [ixP] at hi2
    conv => whnf
    refine brI (fun h2 => ?_) (fun h2 => ?_)
    · conv => whnf
      have h2 : (x == s) = true := h2
      have h2 : eqS s x = true := by unfold eqS; rw [beq_iff_eq] at h2 ⊢; exact h2.symm
      rw [if_pos h2] at hi2
      exact ⟨leA_int hi2, leH_nil⟩
    · conv => whnf
      have h2 : (x == s) = false := h2
      have h2 : eqS s x = false := by unfold eqS; rw [beq_eq_false_iff_ne] at h2 ⊢; exact fun h => h2 h.symm
      rw [if_neg (by rw [h2]; simp)] at hi2
      refine ⟨i + 1, ⟨by omega, hi2⟩, by show l.length - (i + 1) < l.length - i; omega, ?_⟩
      ((conv => whnf); refine And.intro ?_ ?_; repeat' first | refine leL_cons ?_ ?_ | exact leA_any | exact leA_refl rfl | exact leL_nil | refine leH_cons ?_ ?_ | exact leH_nil | exact leB_free | exact leB_dead | refine leB_cells ?_ | exact leB_map rfl | exact leB_gst rfl | exact leA_nil rfl | refine leA_agg ?_ | refine leA_tup ?_ | fail)
      exact leA_int (by rw [wI (by omega)]; omega)
  · conv => whnf
    have hi : ¬ i < l.length := by simp only [decide_eq_false_iff_not] at h1; omega
    rw [List.drop_of_length_le (by omega)] at hi2
    exact ⟨leA_int hi2, leH_nil⟩
abbrev ou (outs : List Int) : Hp := [(1000001, .buf 3 .int outs)]
abbrev tpO (ins : Int) (ops : List TOp) : List AV := [.int .i64 ins, .sl .op ops, .own 1000001]
noncomputable def body62 : Code := Tryz.f62.body.getD .skip
theorem z62 (ins : Int) (ops : List TOp) (outs : List Int) (x : TOp) (h1 : ops.length ≤ 1000) (h2 : 0 ≤ ins ∧ ins ≤ 1000) :
    Fn 62 (ou outs) [.agg (tpO ins ops), .agg (Elt.op.cells x)] (.tup [.agg (tpO ins (putR ins x ops).1), .int .i64 (putR ins x ops).2]) (ou outs) := by
  obtain ⟨A, hA⟩ : ∃ A, putR ins x ops = A := ⟨_, rfl⟩
  rw [hA]
  unfold putR at hA
  refine fnRB_ok rfl (fnB_sound (code := body62) hT3 Tryz.func62 rfl rfl [1000001] ?_)
  conv => whnf
  refine sem_end4 hT3 hmx [] ?_
  conv => whnf
  refine ⟨Nat, fun i => i ≤ ops.length ∧ ixP (eqO x) (ops.drop i) i = ixP (eqO x) ops 0, fun i => [(6, .int .i64 i)], fun _ => [], fun i => ops.length - i, 0, ⟨by simp, rfl⟩, ?_, fun i hi => ?_⟩
  · ((conv => whnf); refine And.intro ?_ ?_; repeat' first | refine leL_cons ?_ ?_ | exact leA_any | exact leA_refl rfl | exact leL_nil | refine leH_cons ?_ ?_ | exact leH_nil | exact leB_free | exact leB_dead | refine leB_cells ?_ | exact leB_map rfl | exact leB_buf rfl | exact leB_gst rfl | exact leA_nil rfl | refine leA_agg ?_ | refine leA_tup ?_ | fail)
  (refine ⟨by kernel_rfl, ?_⟩; (conv => whnf))
  obtain ⟨hi1, hi2⟩ := hi
  refine brI (fun h3 => ?_) (fun h3 => ?_)
  · conv => whnf
    have hi : i < ops.length := by simp only [decide_eq_true_eq] at h3; omega
    refine ⟨⟨by omega, by omega⟩, fun y hy => ?_⟩
    have hy : ops[i]? = some y := by simpa using hy
    rw [drop_get hy] at hi2
    simp only [ixP] at hi2
    conv => whnf
    (refine ⟨by kernel_rfl, by kernel_rfl, ?_⟩; (conv => whnf))
    refine brI (fun h4 => ?_) (fun h4 => ?_)
    · have h4 : eqO x y = true := by
        rw [eqO_iff]
        obtain ⟨a1, a2, a3, a4, ⟨a5, a6⟩⟩ := x
        obtain ⟨b1, b2, b3, b4, ⟨b5, b6⟩⟩ := y
        simp only [Bool.and_eq_true, beq_iff_eq, and_true] at h4
        obtain ⟨rfl, rfl, rfl, rfl, rfl, rfl⟩ := h4
        rfl
      rw [if_pos h4] at hi2
      rw [if_pos (by omega), ← hi2] at hA
      subst hA
      conv => whnf
      (refine ⟨by kernel_rfl, by kernel_rfl, ?_⟩; (conv => whnf))
      (refine And.intro ?_ ?_; repeat' first | refine leL_cons ?_ ?_ | exact leA_any | exact leA_refl rfl | exact leL_nil | refine leH_cons ?_ ?_ | exact leH_nil | exact leB_free | exact leB_dead | refine leB_cells ?_ | exact leB_map rfl | exact leB_buf rfl | exact leB_gst rfl | exact leA_nil rfl | refine leA_agg ?_ | refine leA_tup ?_ | fail)
      exact leA_int (by rw [wI (by omega)])
    · have h4 : eqO x y = false := by
        cases e : eqO x y with
        | false => rfl
        | true =>
          rw [eqO_iff] at e
          subst e
          simp at h4
      rw [if_neg (by rw [h4]; simp)] at hi2
      conv => whnf
      refine ⟨i + 1, ⟨by omega, hi2⟩, by show ops.length - (i + 1) < ops.length - i; omega, ?_⟩
      ((conv => whnf); refine And.intro ?_ ?_; repeat' first | refine leL_cons ?_ ?_ | exact leA_any | exact leA_refl rfl | exact leL_nil | refine leH_cons ?_ ?_ | exact leH_nil | exact leB_free | exact leB_dead | refine leB_cells ?_ | exact leB_map rfl | exact leB_buf rfl | exact leB_gst rfl | exact leA_nil rfl | refine leA_agg ?_ | refine leA_tup ?_ | fail)
      exact leA_int (by rw [wI (by omega)]; omega)
  · have hi : ¬ i < ops.length := by simp only [decide_eq_false_iff_not] at h3; omega
    rw [List.drop_of_length_le (by omega)] at hi2
    simp only [ixP] at hi2
    rw [if_neg (by omega)] at hA
    subst hA
    conv => whnf
    refine ⟨by simp only [List.length_nil]; omega, ?_⟩
    conv => whnf
    refine ⟨by simp only [List.length_append, List.length_nil, List.length_cons]; omega, ?_⟩
    conv => whnf
    (refine ⟨by kernel_rfl, by kernel_rfl, ?_⟩; (conv => whnf))
    (refine ⟨by kernel_rfl, by kernel_rfl, ?_⟩; (conv => whnf))
    (refine And.intro ?_ ?_; repeat' first | refine leL_cons ?_ ?_ | exact leA_any | exact leA_refl rfl | exact leL_nil | refine leH_cons ?_ ?_ | exact leH_nil | exact leB_free | exact leB_dead | refine leB_cells ?_ | exact leB_map rfl | exact leB_buf rfl | exact leB_gst rfl | exact leA_nil rfl | refine leA_agg ?_ | refine leA_tup ?_ | fail)
    refine leA_int ?_
    have hl : (([] ++ ops ++ [x] : List TOp).length : Int) = ops.length + 1 := by simp
    show IntKind.i64.wrap (IntKind.i64.wrap (ins + (([] ++ ops ++ [x] : List TOp).length : Int)) - 1) = ins + ops.length
    rw [hl, wI (x := ins + (ops.length + 1)) (by omega), wI (by omega)]; omega
end Go.Proofs.YtmcdnbmamoggoaaGreat
