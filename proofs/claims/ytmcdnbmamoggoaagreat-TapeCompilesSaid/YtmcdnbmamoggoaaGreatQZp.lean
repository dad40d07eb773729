/-
  Seat .Z: the reference's node.
-/
import Derived.Test.YtmcdnbmamoggoaaGreatQZ1
import Derived.Test.YtmcdnbmamoggoaaGreatQZv
import Derived.Test.YtmcdnbmamoggoaaGreatQZ3
import Derived.Test.YtmcdnbmamoggoaaGreatQZ4
import Derived.Test.YtmcdnbmamoggoaaGreatQTe
set_option linter.unusedVariables false
set_option linter.unusedSimpArgs false
namespace Go.Proofs.YtmcdnbmamoggoaaGreat
open Go Go.Sx
set_option maxRecDepth 100000
set_option maxHeartbeats 8000000
noncomputable def body35 : Code := Tryz.f35.body.getD .skip
theorem z35 (ins : Int) (hins : 0 ≤ ins ∧ ins ≤ 1000) (ns : List Bytes) (hnl : ns.length < 9223372036854775808) : ∀ (e : Ex), Sm e → ∀ (ops : List TOp) (outs : List Int), ops.length ≤ 200 →
    Fn 35 (ou outs) [.agg (tpO ins ops), .sl .str ns, .agg (exC e)] (.tup [.agg (tpO ins (ndR ins ns e ops).1), .int .i64 (ndR ins ns e ops).2.1, .bool (ndR ins ns e ops).2.2]) (ou outs) := by
  refine exInd fun k q s p l ih hs => ?_
  simp only [Sm] at hs
  intro ops outs h0
  obtain ⟨A, hA⟩ : ∃ A, ndR ins ns (.mk k q s p l) ops = A := ⟨_, rfl⟩
  rw [hA]
  simp only [ndR] at hA
  show Fn 35 (ou outs) [.agg (tpO ins ops), .sl .str ns, .agg [.int .i64 k, .int .i64 q.n, .int .i64 q.d, .str s, .int .i64 p, .sl .ex l]] (.tup [.agg (tpO ins A.1), .int .i64 A.2.1, .bool A.2.2]) (ou outs)
  refine fnRB_ok rfl (fnB_sound (code := body35) hT3 Tryz.func35 rfl rfl [1000001] ?_)
  conv => whnf
  refine sem_end4 hT3 hmx [] ?_
  conv => whnf
  refine brI (fun h => ?_) (fun h => ?_)
  · have h : k = 2 := by simpa using h
    rw [if_pos h] at hA
    subst hA
    conv => whnf
    refine ⟨[], _, z61 ns s hnl, ?_⟩
    conv => whnf
    (refine And.intro ?_ ?_; repeat' first | refine leL_cons ?_ ?_ | exact leA_any | exact leA_refl rfl | exact leL_nil | refine leH_cons ?_ ?_ | exact leH_nil | exact leB_free | exact leB_dead | refine leB_cells ?_ | exact leB_map rfl | exact leB_buf rfl | exact leB_gst rfl | exact leA_nil rfl | refine leA_agg ?_ | refine leA_tup ?_ | fail)
    refine leA_int ?_
    show (if 0 > ixP (eqS s) ns 0 then 0 else ixP (eqS s) ns 0) = if 0 ≤ ixP (eqS s) ns 0 then ixP (eqS s) ns 0 else 0
    split <;> split <;> omega
  have h : ¬ k = 2 := by simpa using h
  rw [if_neg h] at hA
  conv => whnf
  refine brI (fun h => ?_) (fun h => ?_)
  · have h : k = 1 := by simpa using h
    rw [if_pos h] at hA
    obtain ⟨B, hB⟩ : ∃ B, ndRL ins ns l ops 0 ⟨k, 0, 0, p, q⟩ = B := ⟨_, rfl⟩
    rw [hB] at hA
    conv => whnf
    refine ⟨Nat × List TOp × TOp, fun x => x.1 ≤ l.length ∧ x.2.1.length ≤ 200 ∧ ndRL ins ns (l.drop x.1) x.2.1 x.1 x.2.2 = B, fun x => [(11, .int .i64 x.1)], fun x => [(3, .cells (tpO ins x.2.1)), (10, .cells (Elt.op.cells x.2.2))], fun x => l.length - x.1, (0, ops, ⟨k, 0, 0, p, q⟩), ⟨by simp, h0, hB⟩, ?_, fun x hx => ?_⟩
    · ((conv => whnf); refine And.intro ?_ ?_; repeat' first | refine leL_cons ?_ ?_ | exact leA_any | exact leA_refl rfl | exact leL_nil | refine leH_cons ?_ ?_ | exact leH_nil | exact leB_free | exact leB_dead | refine leB_cells ?_ | exact leB_map rfl | exact leB_buf rfl | exact leB_gst rfl | exact leA_nil rfl | refine leA_agg ?_ | refine leA_tup ?_ | fail)
    (refine ⟨by kernel_rfl, ?_⟩; (conv => whnf))
    obtain ⟨i, ops0, x0⟩ := x
    obtain ⟨hi1, hi2, hi3⟩ := hx
    simp only at hi1 hi2 hi3
    refine brI (fun h1 => ?_) (fun h1 => ?_)
    · conv => whnf
      have hi : i < l.length := by simp only [decide_eq_true_eq] at h1; omega
      refine ⟨⟨by omega, by simp only; omega⟩, fun y hy => ?_⟩
      have hy : l[i]? = some y := by simpa using hy
      have hm := List.mem_of_getElem? hy
      have hc := ih y hm (SmL_mem hs.2.2 y hm) ops0 outs hi2
      have hle := ndR_len ins ns y ops0 hi2
      rw [drop_get hy] at hi3
      simp only [ndRL] at hi3
      obtain ⟨R, hR⟩ : ∃ R, ndR ins ns y ops0 = R := ⟨_, rfl⟩
      rw [hR] at hi3 hc hle
      obtain ⟨ops1, k1, b⟩ := R
      simp only at hi3 hc hle
      conv => whnf
      refine ⟨[.buf 3 .int outs], .tup [.agg (tpO ins ops1), .int .i64 k1, .bool b], hc, ?_⟩
      conv => whnf
      (refine ⟨by kernel_rfl, by kernel_rfl, ?_⟩; (conv => whnf))
      cases b with
      | false =>
        rw [if_pos (.inl rfl)] at hi3
        rw [← hi3] at hA
        simp only at hA
        subst hA
        conv => whnf
        (refine And.intro ?_ ?_; repeat' first | refine leL_cons ?_ ?_ | exact leA_any | exact leA_refl rfl | exact leL_nil | refine leH_cons ?_ ?_ | exact leH_nil | exact leB_free | exact leB_dead | refine leB_cells ?_ | exact leB_map rfl | exact leB_buf rfl | exact leB_gst rfl | exact leA_nil rfl | refine leA_agg ?_ | refine leA_tup ?_ | fail)
      | true =>
        conv => whnf
        refine brI (fun h2 => ?_) (fun h2 => ?_)
        · have h2 : 200 < ops1.length := by simp only [decide_eq_true_eq] at h2; omega
          rw [if_pos (.inr h2)] at hi3
          rw [← hi3] at hA
          simp only at hA
          subst hA
          conv => whnf
          (refine And.intro ?_ ?_; repeat' first | refine leL_cons ?_ ?_ | exact leA_any | exact leA_refl rfl | exact leL_nil | refine leH_cons ?_ ?_ | exact leH_nil | exact leB_free | exact leB_dead | refine leB_cells ?_ | exact leB_map rfl | exact leB_buf rfl | exact leB_gst rfl | exact leA_nil rfl | refine leA_agg ?_ | refine leA_tup ?_ | fail)
        have h2 : ¬ 200 < ops1.length := by simp only [decide_eq_false_iff_not] at h2; omega
        rw [if_neg (by simp only [Bool.true_eq_false, false_or]; exact h2)] at hi3
        conv => whnf
        refine brI (fun h3 => ?_) (fun h3 => ?_)
        · have h3 : i = 0 := by simp only [beq_iff_eq] at h3; omega
          subst h3
          conv => whnf
          refine ⟨(0 + 1, ops1, setAB 0 x0 k1), ⟨by simp only; omega, by simp only; omega, hi3⟩, by show l.length - (0 + 1) < l.length - 0; omega, ?_⟩
          ((conv => whnf); refine And.intro ?_ ?_; repeat' first | refine leL_cons ?_ ?_ | exact leA_any | exact leA_refl rfl | exact leL_nil | refine leH_cons ?_ ?_ | exact leH_nil | exact leB_free | exact leB_dead | refine leB_cells ?_ | exact leB_map rfl | exact leB_buf rfl | exact leB_gst rfl | exact leA_nil rfl | refine leA_agg ?_ | refine leA_tup ?_ | fail)
        · have h3 : ¬ i = 0 := by simp only [beq_eq_false_iff_ne] at h3; omega
          have hsb : setAB i x0 k1 = ⟨x0.k, x0.a, k1, x0.n, x0.c⟩ := by simp [setAB, h3]
          rw [hsb] at hi3
          conv => whnf
          refine ⟨(i + 1, ops1, ⟨x0.k, x0.a, k1, x0.n, x0.c⟩), ⟨by simp only; omega, by simp only; omega, hi3⟩, by show l.length - (i + 1) < l.length - i; omega, ?_⟩
          ((conv => whnf); refine And.intro ?_ ?_; repeat' first | refine leL_cons ?_ ?_ | exact leA_any | exact leA_refl rfl | exact leL_nil | refine leH_cons ?_ ?_ | exact leH_nil | exact leB_free | exact leB_dead | refine leB_cells ?_ | exact leB_map rfl | exact leB_buf rfl | exact leB_gst rfl | exact leA_nil rfl | refine leA_agg ?_ | refine leA_tup ?_ | fail)
          exact leA_int (by rw [wI (by simp only; omega)]; simp only; omega)
    have hi : ¬ i < l.length := by simp only [decide_eq_false_iff_not] at h1; omega
    rw [List.drop_of_length_le (by omega)] at hi3
    simp only [ndRL] at hi3
    rw [← hi3] at hA
    simp only at hA
    have hp := z62 ins ops0 outs x0 (by omega) (by omega)
    obtain ⟨P, hP⟩ : ∃ P, putR ins x0 ops0 = P := ⟨_, rfl⟩
    rw [hP] at hA hp
    obtain ⟨ops1, k1⟩ := P
    simp only at hA hp
    subst hA
    conv => whnf
    refine ⟨[.buf 3 .int outs], .tup [.agg (tpO ins ops1), .int .i64 k1], hp, ?_⟩
    conv => whnf
    (refine And.intro ?_ ?_; repeat' first | refine leL_cons ?_ ?_ | exact leA_any | exact leA_refl rfl | exact leL_nil | refine leH_cons ?_ ?_ | exact leH_nil | exact leB_free | exact leB_dead | refine leB_cells ?_ | exact leB_map rfl | exact leB_buf rfl | exact leB_gst rfl | exact leA_nil rfl | refine leA_agg ?_ | refine leA_tup ?_ | fail)
  · have h : ¬ k = 1 := by simpa using h
    rw [if_neg h] at hA
    obtain ⟨B, hB⟩ : ∃ B, ndRL ins ns l ops 0 ⟨k, 0, 0, p, ⟨0, 0⟩⟩ = B := ⟨_, rfl⟩
    rw [hB] at hA
    conv => whnf
    refine ⟨Nat × List TOp × TOp, fun x => x.1 ≤ l.length ∧ x.2.1.length ≤ 200 ∧ ndRL ins ns (l.drop x.1) x.2.1 x.1 x.2.2 = B, fun x => [(11, .int .i64 x.1)], fun x => [(3, .cells (tpO ins x.2.1)), (10, .cells (Elt.op.cells x.2.2))], fun x => l.length - x.1, (0, ops, ⟨k, 0, 0, p, ⟨0, 0⟩⟩), ⟨by simp, h0, hB⟩, ?_, fun x hx => ?_⟩
    · ((conv => whnf); refine And.intro ?_ ?_; repeat' first | refine leL_cons ?_ ?_ | exact leA_any | exact leA_refl rfl | exact leL_nil | refine leH_cons ?_ ?_ | exact leH_nil | exact leB_free | exact leB_dead | refine leB_cells ?_ | exact leB_map rfl | exact leB_buf rfl | exact leB_gst rfl | exact leA_nil rfl | refine leA_agg ?_ | refine leA_tup ?_ | fail)
    (refine ⟨by kernel_rfl, ?_⟩; (conv => whnf))
    obtain ⟨i, ops0, x0⟩ := x
    obtain ⟨hi1, hi2, hi3⟩ := hx
    simp only at hi1 hi2 hi3
    refine brI (fun h1 => ?_) (fun h1 => ?_)
    · conv => whnf
      have hi : i < l.length := by simp only [decide_eq_true_eq] at h1; omega
      refine ⟨⟨by omega, by simp only; omega⟩, fun y hy => ?_⟩
      have hy : l[i]? = some y := by simpa using hy
      have hm := List.mem_of_getElem? hy
      have hc := ih y hm (SmL_mem hs.2.2 y hm) ops0 outs hi2
      have hle := ndR_len ins ns y ops0 hi2
      rw [drop_get hy] at hi3
      simp only [ndRL] at hi3
      obtain ⟨R, hR⟩ : ∃ R, ndR ins ns y ops0 = R := ⟨_, rfl⟩
      rw [hR] at hi3 hc hle
      obtain ⟨ops1, k1, b⟩ := R
      simp only at hi3 hc hle
      conv => whnf
      refine ⟨[.buf 3 .int outs], .tup [.agg (tpO ins ops1), .int .i64 k1, .bool b], hc, ?_⟩
      conv => whnf
      (refine ⟨by kernel_rfl, by kernel_rfl, ?_⟩; (conv => whnf))
      cases b with
      | false =>
        rw [if_pos (.inl rfl)] at hi3
        rw [← hi3] at hA
        simp only at hA
        subst hA
        conv => whnf
        (refine And.intro ?_ ?_; repeat' first | refine leL_cons ?_ ?_ | exact leA_any | exact leA_refl rfl | exact leL_nil | refine leH_cons ?_ ?_ | exact leH_nil | exact leB_free | exact leB_dead | refine leB_cells ?_ | exact leB_map rfl | exact leB_buf rfl | exact leB_gst rfl | exact leA_nil rfl | refine leA_agg ?_ | refine leA_tup ?_ | fail)
      | true =>
        conv => whnf
        refine brI (fun h2 => ?_) (fun h2 => ?_)
        · have h2 : 200 < ops1.length := by simp only [decide_eq_true_eq] at h2; omega
          rw [if_pos (.inr h2)] at hi3
          rw [← hi3] at hA
          simp only at hA
          subst hA
          conv => whnf
          (refine And.intro ?_ ?_; repeat' first | refine leL_cons ?_ ?_ | exact leA_any | exact leA_refl rfl | exact leL_nil | refine leH_cons ?_ ?_ | exact leH_nil | exact leB_free | exact leB_dead | refine leB_cells ?_ | exact leB_map rfl | exact leB_buf rfl | exact leB_gst rfl | exact leA_nil rfl | refine leA_agg ?_ | refine leA_tup ?_ | fail)
        have h2 : ¬ 200 < ops1.length := by simp only [decide_eq_false_iff_not] at h2; omega
        rw [if_neg (by simp only [Bool.true_eq_false, false_or]; exact h2)] at hi3
        conv => whnf
        refine brI (fun h3 => ?_) (fun h3 => ?_)
        · have h3 : i = 0 := by simp only [beq_iff_eq] at h3; omega
          subst h3
          conv => whnf
          refine ⟨(0 + 1, ops1, setAB 0 x0 k1), ⟨by simp only; omega, by simp only; omega, hi3⟩, by show l.length - (0 + 1) < l.length - 0; omega, ?_⟩
          ((conv => whnf); refine And.intro ?_ ?_; repeat' first | refine leL_cons ?_ ?_ | exact leA_any | exact leA_refl rfl | exact leL_nil | refine leH_cons ?_ ?_ | exact leH_nil | exact leB_free | exact leB_dead | refine leB_cells ?_ | exact leB_map rfl | exact leB_buf rfl | exact leB_gst rfl | exact leA_nil rfl | refine leA_agg ?_ | refine leA_tup ?_ | fail)
        · have h3 : ¬ i = 0 := by simp only [beq_eq_false_iff_ne] at h3; omega
          have hsb : setAB i x0 k1 = ⟨x0.k, x0.a, k1, x0.n, x0.c⟩ := by simp [setAB, h3]
          rw [hsb] at hi3
          conv => whnf
          refine ⟨(i + 1, ops1, ⟨x0.k, x0.a, k1, x0.n, x0.c⟩), ⟨by simp only; omega, by simp only; omega, hi3⟩, by show l.length - (i + 1) < l.length - i; omega, ?_⟩
          ((conv => whnf); refine And.intro ?_ ?_; repeat' first | refine leL_cons ?_ ?_ | exact leA_any | exact leA_refl rfl | exact leL_nil | refine leH_cons ?_ ?_ | exact leH_nil | exact leB_free | exact leB_dead | refine leB_cells ?_ | exact leB_map rfl | exact leB_buf rfl | exact leB_gst rfl | exact leA_nil rfl | refine leA_agg ?_ | refine leA_tup ?_ | fail)
          exact leA_int (by rw [wI (by simp only; omega)]; simp only; omega)
    have hi : ¬ i < l.length := by simp only [decide_eq_false_iff_not] at h1; omega
    rw [List.drop_of_length_le (by omega)] at hi3
    simp only [ndRL] at hi3
    rw [← hi3] at hA
    simp only at hA
    have hp := z62 ins ops0 outs x0 (by omega) (by omega)
    obtain ⟨P, hP⟩ : ∃ P, putR ins x0 ops0 = P := ⟨_, rfl⟩
    rw [hP] at hA hp
    obtain ⟨ops1, k1⟩ := P
    simp only at hA hp
    subst hA
    conv => whnf
    refine ⟨[.buf 3 .int outs], .tup [.agg (tpO ins ops1), .int .i64 k1], hp, ?_⟩
    conv => whnf
    (refine And.intro ?_ ?_; repeat' first | refine leL_cons ?_ ?_ | exact leA_any | exact leA_refl rfl | exact leL_nil | refine leH_cons ?_ ?_ | exact leH_nil | exact leB_free | exact leB_dead | refine leB_cells ?_ | exact leB_map rfl | exact leB_buf rfl | exact leB_gst rfl | exact leA_nil rfl | refine leA_agg ?_ | refine leA_tup ?_ | fail)
end Go.Proofs.YtmcdnbmamoggoaaGreat

/-
  Seat .Z: the reference's Compile.
-/
namespace Go.Proofs.YtmcdnbmamoggoaaGreat
open Go Go.Sx
set_option maxRecDepth 100000
set_option maxHeartbeats 8000000
theorem leE {h h' : Hp} {e e' : Int} (he : e = e') : leA h h' (.tup [.agg [.int .i64 0, .nilsl, .nilsl], .int .i64 e]) (cpV (tp0, e')) :=
  leA_tup (leL_cons (leA_agg (leL_cons (leA_refl rfl) (leL_cons (leA_nil rfl) (leL_cons (leA_nil rfl) leL_nil)))) (leL_cons (leA_int he) leL_nil))
theorem z8 (l : List Ex) (ns : List Bytes) (hl : ∀ x ∈ l, Sm x) (hll : l.length < 9223372036854775808) (hns : ∀ x ∈ ns, x.length < 9223372036854775808) (hnl : ns.length < 9223372036854775808) :
    Fn 8 [] [.sl .ex l, .sl .str ns] (cpV (cpE l ns)) [] := by
  rw [← cpR_cpE]
  obtain ⟨A, hA⟩ : ∃ A, cpR l ns = A := ⟨_, rfl⟩
  rw [hA]
  unfold cpR at hA
  refine fnT hT3 hmx Tryz.func8 rfl rfl (ex := []) ?_
  conv => whnf
  refine ⟨Nat, fun i => i ≤ l.length ∧ (l.drop i).any badE = l.any badE, fun i => [(6, .int .i64 i)], fun _ => [], fun i => l.length - i, 0, ⟨by simp, by simp⟩, ?_, fun i hi => ?_⟩
  · ((conv => whnf); refine And.intro ?_ ?_; repeat' first | refine leL_cons ?_ ?_ | exact leA_any | exact leA_refl rfl | exact leL_nil | refine leH_cons ?_ ?_ | exact leH_nil | exact leB_free | exact leB_dead | refine leB_cells ?_ | exact leB_map rfl | exact leB_gst rfl | exact leA_nil rfl | refine leA_agg ?_ | refine leA_tup ?_ | fail)
  (refine ⟨by kernel_rfl, ?_⟩; (conv => whnf))
  obtain ⟨hi1, hi2⟩ := hi
  refine brI (fun h1 => ?_) (fun h1 => ?_)
  · conv => whnf
    have hi : i < l.length := by simp only [decide_eq_true_eq] at h1; omega
    refine ⟨⟨by omega, by omega⟩, fun x hx => ?_⟩
    have hx : l[i]? = some x := by simpa using hx
    have hm := List.mem_of_getElem? hx
    rw [any_drop hx] at hi2
    conv => whnf
    refine cbI [] (okT x) (z32 x (hl x hm)) (fun h2 => ?_) (fun h2 => ?_)
    · conv => whnf
      refine ⟨i + 1, ⟨by omega, by simpa [badE, h2] using hi2⟩, by show l.length - (i + 1) < l.length - i; omega, ?_⟩
      ((conv => whnf); refine And.intro ?_ ?_; repeat' first | refine leL_cons ?_ ?_ | exact leA_any | exact leA_refl rfl | exact leL_nil | refine leH_cons ?_ ?_ | exact leH_nil | exact leB_free | exact leB_dead | refine leB_cells ?_ | exact leB_map rfl | exact leB_gst rfl | exact leA_nil rfl | refine leA_agg ?_ | refine leA_tup ?_ | fail)
      exact leA_int (by rw [wI (by omega)]; omega)
    · conv => whnf
      rw [if_pos (.inl (by rw [← hi2]; simp [badE, h2]))] at hA
      subst hA
      exact ⟨leE rfl, leH_nil⟩
  have hi : ¬ i < l.length := by simp only [decide_eq_false_iff_not] at h1; omega
  rw [List.drop_of_length_le (by omega)] at hi2
  have c1 : l.any badE = false := by rw [← hi2]; rfl
  have h33 := z33 ns hns hnl
  obtain ⟨N, hN⟩ : ∃ N, nmR ns = N := ⟨_, rfl⟩
  rw [hN] at h33
  unfold nmR at hN
  conv => whnf
  refine ⟨[], _, h33, ?_⟩
  conv => whnf
  cases c2 : ns.any badN with
  | true =>
    rw [if_pos c2] at hN
    rw [if_pos (.inr c2)] at hA
    subst hN; subst hA
    conv => whnf
    exact ⟨leE rfl, leH_nil⟩
  | false =>
  rw [if_neg (by rw [c2]; simp)] at hN
  rw [if_neg (by rw [c1, c2]; simp)] at hA
  have hn1 : N = 0 ∨ N = 8 := by
    subst hN; split
    · exact .inr rfl
    · exact .inl rfl
  refine brI (fun h => ?_) (fun h => ?_)
  · have h : N = 1 := by simpa using h
    omega
  conv => whnf
  refine brI (fun h3 => ?_) (fun h3 => ?_)
  · have h3 : 8 < ns.length := by simp only [decide_eq_true_eq] at h3; omega
    rw [if_pos (.inl h3)] at hA
    subst hA
    conv => whnf
    exact ⟨leE rfl, leH_nil⟩
  have h3 : ¬ 8 < ns.length := by simp only [decide_eq_false_iff_not] at h3; omega
  conv => whnf
  refine brI (fun h4 => ?_) (fun h4 => ?_)
  · have h4 : 200 < l.length := by simp only [decide_eq_true_eq] at h4; omega
    rw [if_pos (.inr h4)] at hA
    subst hA
    conv => whnf
    exact ⟨leE rfl, leH_nil⟩
  have h4 : ¬ 200 < l.length := by simp only [decide_eq_false_iff_not] at h4; omega
  rw [if_neg (by omega)] at hA
  conv => whnf
  refine brI (fun h5 => ?_) (fun h5 => ?_)
  · have h5 : N ≠ 0 := by simpa using h5
    have h6 : duS ns 0 ns = true := by
      cases e : duS ns 0 ns with
      | true => rfl
      | false => rw [if_neg (by rw [e]; simp)] at hN; omega
    rw [if_pos h6] at hN hA
    subst hN; subst hA
    conv => whnf
    exact ⟨leE rfl, leH_nil⟩
  have h5 : N = 0 := by simpa using h5
  have h6 : duS ns 0 ns = false := by
    cases e : duS ns 0 ns with
    | false => rfl
    | true => rw [if_pos e] at hN; omega
  rw [if_neg (by rw [h6]; simp)] at hA
  conv => whnf
  refine ⟨Nat, fun i => i ≤ l.length ∧ (l.drop i).any (fun e => !knE ns e) = l.any (fun e => !knE ns e), fun i => [(8, .int .i64 i)], fun _ => [], fun i => l.length - i, 0, ⟨by simp, by simp⟩, ?_, fun i hi => ?_⟩
  · ((conv => whnf); refine And.intro ?_ ?_; repeat' first | refine leL_cons ?_ ?_ | exact leA_any | exact leA_refl rfl | exact leL_nil | refine leH_cons ?_ ?_ | exact leH_nil | exact leB_free | exact leB_dead | refine leB_cells ?_ | exact leB_map rfl | exact leB_gst rfl | exact leA_nil rfl | refine leA_agg ?_ | refine leA_tup ?_ | fail)
  (refine ⟨by kernel_rfl, ?_⟩; (conv => whnf))
  obtain ⟨hi1, hi2⟩ := hi
  refine brI (fun h1 => ?_) (fun h1 => ?_)
  · conv => whnf
    have hi : i < l.length := by simp only [decide_eq_true_eq] at h1; omega
    refine ⟨⟨by omega, by omega⟩, fun x hx => ?_⟩
    have hx : l[i]? = some x := by simpa using hx
    have hm := List.mem_of_getElem? hx
    rw [any_drop hx] at hi2
    conv => whnf
    refine cbI [] (knE ns x) (z34 ns hnl x (hl x hm)) (fun h2 => ?_) (fun h2 => ?_)
    · conv => whnf
      refine ⟨i + 1, ⟨by omega, by simpa [h2] using hi2⟩, by show l.length - (i + 1) < l.length - i; omega, ?_⟩
      ((conv => whnf); refine And.intro ?_ ?_; repeat' first | refine leL_cons ?_ ?_ | exact leA_any | exact leA_refl rfl | exact leL_nil | refine leH_cons ?_ ?_ | exact leH_nil | exact leB_free | exact leB_dead | refine leB_cells ?_ | exact leB_map rfl | exact leB_gst rfl | exact leA_nil rfl | refine leA_agg ?_ | refine leA_tup ?_ | fail)
      exact leA_int (by rw [wI (by omega)]; omega)
    · conv => whnf
      rw [if_pos (by rw [← hi2]; simp [h2])] at hA
      subst hA
      exact ⟨leE rfl, leH_nil⟩
  have hi : ¬ i < l.length := by simp only [decide_eq_false_iff_not] at h1; omega
  rw [List.drop_of_length_le (by omega)] at hi2
  rw [if_neg (by rw [← hi2]; simp)] at hA
  obtain ⟨B, hB⟩ : ∃ B, lpR ns.length ns l [] [] = B := ⟨_, rfl⟩
  rw [hB] at hA
  conv => whnf
  refine ⟨Nat × List TOp × List Int, fun x => x.1 ≤ l.length ∧ x.2.1.length ≤ 200 ∧ x.2.2.length ≤ x.1 ∧ lpR ns.length ns (l.drop x.1) x.2.1 x.2.2 = B, fun x => [(10, .int .i64 x.1)], fun x => [(9, .cells [.int .i64 ns.length, .sl .op x.2.1, .own 86]), (86, .buf 3 .int x.2.2)], fun x => l.length - x.1, (0, [], []), ⟨by simp, by simp, by simp, hB⟩, ?_, fun x hx => ?_⟩
  · ((conv => whnf); refine And.intro ?_ ?_; repeat' first | refine leL_cons ?_ ?_ | exact leA_any | exact leA_refl rfl | exact leL_nil | refine leH_cons ?_ ?_ | exact leH_nil | exact leB_free | exact leB_dead | refine leB_cells ?_ | exact leB_map rfl | exact leB_buf rfl | exact leB_gst rfl | exact leA_nil rfl | refine leA_agg ?_ | refine leA_tup ?_ | fail)
    · exact trivial
    · exact ⟨rfl, rfl⟩
  (refine ⟨by kernel_rfl, ?_⟩; (conv => whnf))
  obtain ⟨i, ops, outs⟩ := x
  obtain ⟨hi1, hi2, hi3, hi4⟩ := hx
  simp only at hi1 hi2 hi3 hi4
  refine brI (fun h1 => ?_) (fun h1 => ?_)
  · conv => whnf
    have hi : i < l.length := by simp only [decide_eq_true_eq] at h1; omega
    refine ⟨⟨by omega, by simp only; omega⟩, fun x hx => ?_⟩
    have hx : l[i]? = some x := by simpa using hx
    have hm := List.mem_of_getElem? hx
    have hc := z35 ns.length (by omega) ns hnl x (hl x hm) ops outs hi2
    have hle := ndR_len ns.length ns x ops hi2
    rw [drop_get hx] at hi4
    simp only [lpR] at hi4
    obtain ⟨R, hR⟩ : ∃ R, ndR ns.length ns x ops = R := ⟨_, rfl⟩
    rw [hR] at hi4 hc hle
    obtain ⟨ops1, k1, b⟩ := R
    simp only at hi4 hc hle
    conv => whnf
    refine ⟨[.buf 3 .int outs], .tup [.agg [.int .i64 ns.length, .sl .op ops1, .own 86], .int .i64 k1, .bool b], hc.sw [(86, 1000001)] rfl, ?_⟩
    conv => whnf
    (refine ⟨by kernel_rfl, by kernel_rfl, ?_⟩; (conv => whnf))
    refine brI (fun h2 => ?_) (fun h2 => ?_)
    · have h2 : 200 < ops1.length := by simp only [decide_eq_true_eq] at h2; omega
      rw [if_pos h2] at hi4
      rw [← hi4] at hA
      simp only at hA
      subst hA
      conv => whnf
      exact ⟨leE rfl, leH_nil⟩
    have h2 : ¬ 200 < ops1.length := by simp only [decide_eq_false_iff_not] at h2; omega
    rw [if_neg h2] at hi4
    conv => whnf
    refine ⟨by simp only [List.length_cons, List.length_nil]; omega, ?_⟩
    conv => whnf
    refine ⟨(i + 1, ops1, outs ++ [k1]), ⟨by simp only; omega, by simp only; omega, by simp only [List.length_append, List.length_cons, List.length_nil]; omega, hi4⟩, by show l.length - (i + 1) < l.length - i; omega, ?_⟩
    ((conv => whnf); refine And.intro ?_ ?_; repeat' first | refine leL_cons ?_ ?_ | exact leA_any | exact leA_refl rfl | exact leL_nil | refine leH_cons ?_ ?_ | exact leH_nil | exact leB_free | exact leB_dead | refine leB_cells ?_ | exact leB_map rfl | exact leB_buf rfl | exact leB_gst rfl | exact leA_nil rfl | refine leA_agg ?_ | refine leA_tup ?_ | fail)
    exact leA_int (by rw [wI (by simp only; omega)]; simp only; omega)
  have hi : ¬ i < l.length := by simp only [decide_eq_false_iff_not] at h1; omega
  rw [List.drop_of_length_le (by omega)] at hi4
  simp only [lpR] at hi4
  rw [← hi4] at hA
  simp only at hA
  subst hA
  conv => whnf
  exact ⟨leA_refl rfl, leH_nil⟩
end Go.Proofs.YtmcdnbmamoggoaaGreat

/-
  Seat .Z: law 3, TapeCompiles.
-/
namespace Go.Proofs.YtmcdnbmamoggoaaGreat
open Go Go.Sx
set_option maxRecDepth 100000
set_option maxHeartbeats 8000000
theorem cp_small (l : List Ex) (ns : List Bytes) : (cpE l ns).1.ops.length ≤ 200 ∧ (cpE l ns).1.outs.length ≤ 200 := by
  unfold cpE
  split
  · simp [tp0]
  split
  · simp [tp0]
  split
  · simp [tp0]
  split
  · simp [tp0]
  split
  · simp [tp0]
  · simp only; omega
theorem z3 (l : List Ex) (ns : List Bytes) (hl : ∀ x ∈ l, Sm x) (hll : l.length < 9223372036854775808) (hns : ∀ x ∈ ns, x.length < 9223372036854775808) (hnl : ns.length < 9223372036854775808) : Fn 3 [] [.sl .ex l, .sl .str ns] (.bool true) [] := by
  have h7 := f46 l ns hl hll hns hnl
  have h8 := z8 l ns hl hll hns hnl
  have hsm := cp_small l ns
  obtain ⟨A, hA⟩ : ∃ A, cpE l ns = A := ⟨_, rfl⟩
  rw [hA] at h7 h8 hsm
  obtain ⟨t, err⟩ := A
  simp only at hsm
  have h7 : Fn 7 [] [.sl .ex l, .sl .str ns] (.tup [.agg (tpC t), .int .i64 err]) [] := h7
  have h8 : Fn 8 [] [.sl .ex l, .sl .str ns] (.tup [.agg (tpC t), .int .i64 err]) [] := h8
  have h9 := f50r t (by omega) (by omega)
  refine fnT hT2 hmx Tryz.func3 rfl rfl (ex := []) ?_
  conv => whnf
  refine ⟨[], _, f40, ?_⟩
  conv => whnf
  refine cbI [] _ (f45 l) (fun h1 => ?_) (fun h1 => ?_)
  · conv => whnf
    exact ⟨leA_refl rfl, leH_nil⟩
  conv => whnf
  refine brI (fun h2 => ?_) (fun h2 => ?_)
  · conv => whnf
    exact ⟨leA_refl rfl, leH_nil⟩
  conv => whnf
  refine ⟨[], _, h7, ?_⟩
  conv => whnf
  refine ⟨[], _, h8, ?_⟩
  conv => whnf
  refine brI (fun _ => ?_) (fun h => absurd h (by simp))
  conv => whnf
  refine ⟨[], _, h9, ?_⟩
  conv => whnf
  exact ⟨leA_refl rfl, leH_nil⟩
end Go.Proofs.YtmcdnbmamoggoaaGreat
