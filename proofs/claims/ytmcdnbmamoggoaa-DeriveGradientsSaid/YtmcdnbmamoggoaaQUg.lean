/-
  The law DeriveGradients: behind the names.
-/
import Derived.Test.YtmcdnbmamoggoaaQUz
import Derived.Test.YtmcdnbmamoggoaaQSxZ
set_option linter.unusedVariables false
set_option linter.unusedSimpArgs false
namespace Go.Proofs.Ytmcdnbmamoggoaa
open Go Go.Sx
set_option maxRecDepth 100000
set_option maxHeartbeats 16000000
noncomputable def body7 : Code := Try.f7.body.getD .skip
abbrev S7 (c : Code) (σ : St) : Prop := SemOK Try.prog T Try.f7.results.toList [] (.bool true) [] c σ
/-- What is known behind the law's first lines, and behind the names. -/
abbrev st7 (e : Ex) (x : AV) (fl : List Eqn) : St := ⟨[.any, x, .sl .eqn fl, .ptr 3 0] ++ anys 147, [(3, .cells (exC e)), (13, .free), (81, .free), (81 + 100000, .free), (15, .free), (18, .free), (19, .free)]⟩
theorem t7c (e : Ex) (fl : List Eqn) (he : Sm e) (hF : FlOk fl) (hs : smB e = true) : S7 (dropS 2 (dropS 2 body7)) (st7 e .any fl) := by
  obtain ⟨hfl, hfn⟩ := hF
  have hoe := smB_ok hs
  have h30 := f30b fl hfl hfn
  rw [fl_bad] at h30
  have h36 := f36 e fl he hfl hfn
  refine sem_end hT hmx ?_
  conv => whnf
  by_cases h8 : 8 < fl.length
  · rw [al_1 h8] at h36
    refine ⟨[], _, h36, ?_⟩
    conv => whnf
    refine brI (fun _ => ?_) (fun h => absurd h8 (by simp only [decide_eq_false_iff_not] at h; omega))
    conv => whnf
    refine ⟨[], _, f19_zero, ?_⟩
    conv => whnf
    exact ⟨leA_refl rfl, leH_nil⟩
  cases hok : flOk fl with
  | false =>
    rw [al_2 h8 (by rw [hoe, hok]; rfl)] at h36
    refine ⟨[], _, h36, ?_⟩
    conv => whnf
    refine brI (fun h => absurd h8 (by simp only [decide_eq_true_eq] at h; omega)) (fun _ => ?_)
    conv => whnf
    refine ⟨[], .bool true, (by rw [hok] at h30; exact h30), ?_⟩
    conv => whnf
    refine ⟨[], _, f19_zero, ?_⟩
    conv => whnf
    exact ⟨leA_refl rfl, leH_nil⟩
  | true =>
    obtain ⟨A, hA⟩ : ∃ A, alE e fl = A := ⟨_, rfl⟩
    rw [hA] at h36
    obtain ⟨z, k⟩ := A
    refine ⟨[], _, h36, ?_⟩
    conv => whnf
    refine brI (fun h => absurd h8 (by simp only [decide_eq_true_eq] at h; omega)) (fun _ => ?_)
    conv => whnf
    refine ⟨[], .bool false, (by rw [hok] at h30; exact h30), ?_⟩
    conv => whnf
    refine ⟨Nat, fun j => j ≤ fl.length ∧ ∀ (i : Nat) q, i < j → fl[i]? = some q → (fl.take i).any (nameQ q) = false, fun j => [(119, .int .i64 j)], fun _ => [], fun j => fl.length - j, 0, ⟨by omega, by omega⟩, ?_, fun j hj => ?_⟩
    · ((conv => whnf); refine And.intro ?_ ?_; repeat' first | refine leL_cons ?_ ?_ | exact leA_any | exact leA_refl rfl | exact leL_nil | refine leH_cons ?_ ?_ | exact leH_nil | exact leB_free | exact leB_dead | refine leB_cells ?_ | exact leB_map rfl | exact leB_gst rfl | exact leA_nil rfl | refine leA_agg ?_ | refine leA_tup ?_ | fail)
    (refine ⟨by kernel_rfl, ?_⟩; (conv => whnf))
    obtain ⟨hj1, hj2⟩ := hj
    refine brI (fun h1 => ?_) (fun h1 => ?_)
    · conv => whnf
      have h1 : j < fl.length := by simp only [decide_eq_true_eq] at h1; omega
      refine ⟨⟨by omega, by omega⟩, fun q hq => ?_⟩
      have hq : fl[j]? = some q := by simpa using hq
      conv => whnf
      refine ⟨⟨by omega, by omega, by omega⟩, ?_⟩
      conv => whnf
      refine cbI [.cells (eqC q)] ((fl.take j).any (nameQ q)) ((f30c q (fl.take j) (by rw [List.length_take]; omega)).sw [(18, 1000003)] rfl) (fun h2 => ?_) (fun h2 => ?_)
      · have hd : dupS fl [] = true := (dup_iff fl).2 ⟨j, q, hq, h2⟩
        rw [al_3 h8 hoe hok hd] at hA
        simp only [Prod.mk.injEq] at hA
        obtain ⟨rfl, rfl⟩ := hA
        conv => whnf
        refine ⟨[], _, f19_zero, ?_⟩
        conv => whnf
        exact ⟨leA_refl rfl, leH_nil⟩
      · conv => whnf
        refine ⟨j + 1, ⟨by omega, fun i p hi hp => ?_⟩, by show fl.length - (j + 1) < fl.length - j; omega, ?_⟩
        · rcases Nat.lt_or_ge i j with h4 | h4
          · exact hj2 i p h4 hp
          · obtain rfl : i = j := by omega
            obtain rfl : q = p := by rw [hq] at hp; exact Option.some.inj hp
            exact h2
        ((conv => whnf); refine And.intro ?_ ?_; repeat' first | refine leL_cons ?_ ?_ | exact leA_any | exact leA_refl rfl | exact leL_nil | refine leH_cons ?_ ?_ | exact leH_nil | exact leB_free | exact leB_dead | refine leB_cells ?_ | exact leB_map rfl | exact leB_gst rfl | exact leA_nil rfl | refine leA_agg ?_ | refine leA_tup ?_ | fail)
        exact leA_int (by rw [wI (by omega)]; omega)
    have h1 : ¬ j < fl.length := by simp only [decide_eq_false_iff_not] at h1; omega
    have hd : dupS fl [] = false := by
      cases h5 : dupS fl [] with
      | false => rfl
      | true =>
        obtain ⟨i, q, h6, h7⟩ := (dup_iff fl).1 h5
        have h9 := (List.getElem?_eq_some_iff.1 h6).1
        rw [hj2 i q (by omega) h6] at h7
        cases h7
    have h39 := f39 e fl hoe hok (by omega) hd
    have hzz := same_al h8 hoe hok hd
    rw [hA] at h39 hzz
    conv => whnf
    refine ⟨[], _, h39, ?_⟩
    conv => whnf
    refine brI (fun _ => ?_) (fun h => absurd h (by simp))
    conv => whnf
    refine ⟨[], .bool true, (by rw [← hzz]; exact f19 z z), ?_⟩
    conv => whnf
    exact ⟨leA_refl rfl, leH_nil⟩
end Go.Proofs.Ytmcdnbmamoggoaa

/-
  The law DeriveGradients: the names.
-/
namespace Go.Proofs.Ytmcdnbmamoggoaa
open Go Go.Sx
set_option maxRecDepth 100000
set_option maxHeartbeats 16000000
theorem t7b (e : Ex) (ns : List Bytes) (fl : List Eqn) (he : Sm e) (hN : NsOk ns) (hF : FlOk fl) (hs : smB e = true) : S7 (dropS 2 body7) (st7 e (.sl .str ns) fl) := by
  have htail := t7c e fl he hF hs
  obtain ⟨hns, hnl⟩ := hN
  have hoe := smB_ok hs
  have h34 := f34 e ns he hns hnl
  refine sem_cut hT hmx 2 (fun _ : Unit => st7 e .any fl) (fun _ => by kernel_rfl) ?_ (fun _ => htail)
  clear htail
  conv => whnf
  by_cases h8n : 8 < ns.length
  · rw [show grE e ns = ([], 5) by simp [grE, h8n]] at h34
    refine ⟨[], _, h34, ?_⟩
    conv => whnf
    refine brI (fun _ => ?_) (fun h => absurd h8n (by simp only [decide_eq_false_iff_not] at h; omega))
    conv => whnf
    refine ⟨(), ?_⟩
    ((conv => whnf); refine And.intro ?_ ?_; repeat' first | refine leL_cons ?_ ?_ | exact leA_any | exact leA_refl rfl | exact leL_nil | refine leH_cons ?_ ?_ | exact leH_nil | exact leB_free | exact leB_dead | refine leB_cells ?_ | exact leB_map rfl | exact leB_gst rfl | exact leA_nil rfl | refine leA_agg ?_ | refine leA_tup ?_ | fail)
  obtain ⟨G, hG⟩ : ∃ G, grL e ns [] = G := ⟨_, rfl⟩
  obtain ⟨L, g⟩ := G
  rw [show grE e ns = (L, g) by simp [grE, h8n, hG]] at h34
  refine ⟨[], _, h34, ?_⟩
  conv => whnf
  refine brI (fun h => absurd h8n (by simp only [decide_eq_true_eq] at h; omega)) (fun _ => ?_)
  conv => whnf
  refine ⟨Nat × List Ex, fun x => x.1 ≤ ns.length ∧ x.2.length ≤ x.1 ∧ grL e (ns.drop x.1) x.2 = (L, g) ∧ ∀ y ∈ x.2, VT y, fun x => [(65, .int .i64 x.1), (9, .own 81), (10, .int .i64 0)], fun x => [(81, .buf 26 .ex x.2)], fun x => ns.length - x.1, (0, []), ⟨by simp, by simp, hG, by simp⟩, ?_, fun x hx => ?_⟩
  · ((conv => whnf); refine And.intro ?_ ?_; repeat' first | refine leL_cons ?_ ?_ | exact leA_any | exact leA_refl rfl | exact leL_nil | refine leH_cons ?_ ?_ | exact leH_nil | exact leB_free | exact leB_dead | refine leB_cells ?_ | exact leB_map rfl | exact leB_gst rfl | exact leA_nil rfl | refine leA_agg ?_ | refine leA_tup ?_ | fail)
    · exact trivial
    · exact ⟨rfl, rfl⟩
  (refine ⟨by kernel_rfl, ?_⟩; (conv => whnf))
  obtain ⟨j, acc⟩ := x
  obtain ⟨hj1, hj2, hj3, hj4⟩ := hx
  simp only at hj1 hj2 hj3 hj4
  refine brI (fun h3 => ?_) (fun h3 => ?_)
  · conv => whnf
    have h3 : j < ns.length := by simp only [decide_eq_true_eq] at h3; omega
    refine ⟨⟨by omega, by omega⟩, fun n hn => ?_⟩
    have hn : ns[j]? = some n := by simpa using hn
    rw [drop_get hn] at hj3
    simp only [grL] at hj3
    have h16 := f16 e n he (hns n (List.mem_of_getElem? hn))
    have hdv := @dfE_VT e n hoe
    generalize dfE e n = D at h16 hj3 hdv
    obtain ⟨d, k⟩ := D
    simp only at hj3 hdv
    conv => whnf
    refine ⟨[], _, h16, ?_⟩
    conv => whnf
    refine brI (fun h4 => ?_) (fun h4 => ?_)
    · have h4 : k ≠ 0 := by simpa using h4
      rw [if_neg h4] at hj3
      simp only [Prod.mk.injEq] at hj3
      obtain ⟨rfl, rfl⟩ := hj3
      conv => whnf
      refine brI (fun h => absurd h (by simp)) (fun _ => ?_)
      conv => whnf
      refine ⟨[], .bool true, nilS2 (f35 [] [] (by simp) (by simp)), ?_⟩
      conv => whnf
      refine ⟨(), ?_⟩
      ((conv => whnf); refine And.intro ?_ ?_; repeat' first | refine leL_cons ?_ ?_ | exact leA_any | exact leA_refl rfl | exact leL_nil | refine leH_cons ?_ ?_ | exact leH_nil | exact leB_free | exact leB_dead | refine leB_cells ?_ | exact leB_map rfl | exact leB_gst rfl | exact leA_nil rfl | refine leA_agg ?_ | refine leA_tup ?_ | fail)
    · conv => whnf
      have h4 : k = 0 := by simpa using h4
      rw [if_pos h4] at hj3
      refine ⟨by simp only [List.length_cons, List.length_nil]; omega, ?_⟩
      conv => whnf
      rw [Ex.eta2]
      refine ⟨(j + 1, acc ++ [d]), ⟨by simp only; omega, by simp only [List.length_append, List.length_cons, List.length_nil]; omega, hj3, fun y hy => ?_⟩, by show ns.length - (j + 1) < ns.length - j; omega, ?_⟩
      · rcases List.mem_append.1 hy with h5 | h5
        · exact hj4 y h5
        · simp only [List.mem_singleton] at h5
          rw [h5]; exact hdv h4
      ((conv => whnf); refine And.intro ?_ ?_; repeat' first | refine leL_cons ?_ ?_ | exact leA_any | exact leA_refl rfl | exact leL_nil | refine leH_cons ?_ ?_ | exact leH_nil | exact leB_free | exact leB_dead | refine leB_cells ?_ | exact leB_map rfl | exact leB_gst rfl | exact leA_nil rfl | refine leA_agg ?_ | refine leA_tup ?_ | fail)
      · exact leA_int (by rw [wI (by simp only; omega)]; simp only; omega)
      · exact leB_buf rfl
  have h3 : ¬ j < ns.length := by simp only [decide_eq_false_iff_not] at h3; omega
  rw [List.drop_of_length_le (by omega)] at hj3
  simp only [grL, Prod.mk.injEq] at hj3
  obtain ⟨rfl, rfl⟩ := hj3
  conv => whnf
  refine ⟨[], .bool true, (by rw [← sameL_refl hj4]; exact f35 acc acc (fun x _ => f19 x) (by omega)), ?_⟩
  conv => whnf
  refine ⟨(), ?_⟩
  ((conv => whnf); refine And.intro ?_ ?_; repeat' first | refine leL_cons ?_ ?_ | exact leA_any | exact leA_refl rfl | exact leL_nil | refine leH_cons ?_ ?_ | exact leH_nil | exact leB_free | exact leB_dead | refine leB_cells ?_ | exact leB_map rfl | exact leB_gst rfl | exact leA_nil rfl | refine leA_agg ?_ | refine leA_tup ?_ | fail)
end Go.Proofs.Ytmcdnbmamoggoaa

/-
  The law DeriveGradients: the whole.
-/
namespace Go.Proofs.Ytmcdnbmamoggoaa
open Go Go.Sx
set_option maxRecDepth 100000
set_option maxHeartbeats 16000000
theorem f7 (e : Ex) (ns : List Bytes) (fl : List Eqn) (he : Sm e) (hns : ∀ x ∈ ns, x.length < 9223372036854775808) (hnl : ns.length < 9223372036854775808) (hfl : ∀ q ∈ fl, Sm q.e ∧ q.s.length < 9223372036854775808) (hfn : fl.length < 9223372036854775808) :
    Fn 7 [] [.agg (exC e), .sl .str ns, .sl .eqn fl] (.bool true) [] := by
  refine fnC_sound (code := body7) hT hmx Try.func7 rfl rfl (ex := []) ?_
  conv => whnf
  cases hs : smB e with
  | false =>
    refine sem_end hT hmx ?_
    conv => whnf
    refine ⟨[], _, f14, ?_⟩
    conv => whnf
    refine ⟨[], .bool false, (by rw [← hs]; exact f28 e he), ?_⟩
    conv => whnf
    refine ⟨[], _, f14, ?_⟩
    conv => whnf
    exact ⟨leA_refl rfl, leH_nil⟩
  | true =>
  have hmid := t7b e ns fl he ⟨hns, hnl⟩ ⟨hfl, hfn⟩ hs
  refine sem_cut hT hmx 2 (fun _ : Unit => st7 e (.sl .str ns) fl) (fun _ => by kernel_rfl) ?_ (fun _ => hmid)
  clear hmid
  conv => whnf
  refine ⟨[], _, f14, ?_⟩
  conv => whnf
  refine ⟨[], .bool true, (by rw [← hs]; exact f28 e he), ?_⟩
  conv => whnf
  refine brI (fun h1 => ?_) (fun h1 => ?_)
  · conv => whnf
    refine ⟨[], _, f14, ?_⟩
    conv => whnf
    exact ⟨leA_refl rfl, leH_nil⟩
  conv => whnf
  refine brI (fun h2 => ?_) (fun h2 => ?_)
  · conv => whnf
    refine ⟨[], _, f14, ?_⟩
    conv => whnf
    exact ⟨leA_refl rfl, leH_nil⟩
  conv => whnf
  refine cbI [] (fl.any largeQ) (f30a fl hfl hfn) (fun h3 => ?_) (fun h3 => ?_)
  · conv => whnf
    refine ⟨[], _, f14, ?_⟩
    conv => whnf
    exact ⟨leA_refl rfl, leH_nil⟩
  conv => whnf
  refine cbI [] (ns.any longS) (f32 ns hnl) (fun h4 => ?_) (fun h4 => ?_)
  · conv => whnf
    refine ⟨[], _, f14, ?_⟩
    conv => whnf
    exact ⟨leA_refl rfl, leH_nil⟩
  conv => whnf
  refine ⟨(), ?_⟩
  ((conv => whnf); refine And.intro ?_ ?_; repeat' first | refine leL_cons ?_ ?_ | exact leA_any | exact leA_refl rfl | exact leL_nil | refine leH_cons ?_ ?_ | exact leH_nil | exact leB_free | exact leB_dead | refine leB_cells ?_ | exact leB_map rfl | exact leB_gst rfl | exact leA_nil rfl | refine leA_agg ?_ | refine leA_tup ?_ | fail)
end Go.Proofs.Ytmcdnbmamoggoaa
