/-
  Seat .Z: the reference's Equal, Expr; law 4, TapeTrees.
-/
import Derived.Test.YtmcdnbmamoggoaaGreatQZw
import Derived.Test.YtmcdnbmamoggoaaGreatQZ3
import Derived.Test.YtmcdnbmamoggoaaGreatQZ4
set_option linter.unusedVariables false
set_option linter.unusedSimpArgs false
namespace Go.Proofs.YtmcdnbmamoggoaaGreat
open Go Go.Sx
set_option maxRecDepth 100000
set_option maxHeartbeats 8000000
theorem z12 : ∀ (e : Ex), Sm e → Fn 12 [] [.agg (exC e), .agg (exC e)] (.bool true) [] := by
  refine exInd fun k q s p l ih hs => ?_
  simp only [Sm] at hs
  show Fn 12 [] [.agg [.int .i64 k, .int .i64 q.n, .int .i64 q.d, .str s, .int .i64 p, .sl .ex l], .agg [.int .i64 k, .int .i64 q.n, .int .i64 q.d, .str s, .int .i64 p, .sl .ex l]] (.bool true) []
  refine fnT hT2 hmx Tryz.func12 rfl rfl (ex := []) ?_
  conv => whnf
  refine brI (fun h => absurd h (by simp)) (fun _ => ?_)
  conv => whnf
  refine brI (fun h => absurd h (by simp)) (fun _ => ?_)
  conv => whnf
  refine brI (fun h => absurd h (by simp)) (fun _ => ?_)
  conv => whnf
  refine brI (fun h => absurd h (by simp)) (fun _ => ?_)
  conv => whnf
  refine brI (fun h => absurd h (by simp)) (fun _ => ?_)
  conv => whnf
  refine brI (fun h => absurd h (by simp)) (fun _ => ?_)
  conv => whnf
  refine ⟨Nat, fun i => i ≤ l.length, fun i => [(5, .int .i64 i)], fun _ => [], fun i => l.length - i, 0, by simp, ?_, fun i hi => ?_⟩
  · ((conv => whnf); refine And.intro ?_ ?_; repeat' first | refine leL_cons ?_ ?_ | exact leA_any | exact leA_refl rfl | exact leL_nil | refine leH_cons ?_ ?_ | exact leH_nil | exact leB_free | exact leB_dead | refine leB_cells ?_ | exact leB_map rfl | exact leB_gst rfl | exact leA_nil rfl | refine leA_agg ?_ | refine leA_tup ?_ | fail)
  (refine ⟨by kernel_rfl, ?_⟩; (conv => whnf))
  have hi : i ≤ l.length := hi
  refine brI (fun h1 => ?_) (fun h1 => ?_)
  · conv => whnf
    have hi : i < l.length := by simp only [decide_eq_true_eq] at h1; omega
    refine ⟨⟨by omega, by omega⟩, fun x hx => ?_⟩
    have hx : l[i]? = some x := by simpa using hx
    have hm := List.mem_of_getElem? hx
    conv => whnf
    refine ⟨⟨by omega, by omega⟩, fun y hy => ?_⟩
    have hy : l[i]? = some y := by simpa using hy
    rw [hx] at hy; cases hy
    conv => whnf
    refine ⟨[], .bool true, ih x hm (SmL_mem hs.2.2 x hm), ?_⟩
    conv => whnf
    (refine ⟨by kernel_rfl, by kernel_rfl, ?_⟩; (conv => whnf))
    refine ⟨i + 1, by omega, by show l.length - (i + 1) < l.length - i; omega, ?_⟩
    ((conv => whnf); refine And.intro ?_ ?_; repeat' first | refine leL_cons ?_ ?_ | exact leA_any | exact leA_refl rfl | exact leL_nil | refine leH_cons ?_ ?_ | exact leH_nil | exact leB_free | exact leB_dead | refine leB_cells ?_ | exact leB_map rfl | exact leB_gst rfl | exact leA_nil rfl | refine leA_agg ?_ | refine leA_tup ?_ | fail)
    exact leA_int (by rw [wI (by omega)]; omega)
  · conv => whnf
    exact ⟨leA_refl rfl, leH_nil⟩
theorem z11 (t : Tp) (i : Int) (ns : List Bytes) (h1 : t.ops.length < 9223372036854775808) (h2 : t.outs.length < 9223372036854775808) (hns : ∀ x ∈ ns, x.length < 9223372036854775808) (hnl : ns.length < 9223372036854775808) :
    Fn 11 [] [.agg (tpC t), .int .i64 i, .sl .str ns] (trV (trE t i ns)) [] := by
  rw [← exR_trE]
  obtain ⟨A, hA⟩ : ∃ A, exR t i ns = A := ⟨_, rfl⟩
  rw [hA]
  unfold exR at hA
  have h42 := f42 t h1 h2
  refine fnT hT2 hmx Tryz.func11 rfl rfl (ex := []) ?_
  conv => whnf
  by_cases hv : tvB t = true
  rotate_left
  · have hv : tvB t = false := by simpa using hv
    rw [if_pos (.inl hv)] at hA
    subst hA
    rw [hv] at h42
    refine ⟨[], _, h42, ?_⟩
    conv => whnf
    exact ⟨leZ rfl, leH_nil⟩
  rw [hv] at h42
  obtain ⟨⟨v1, v2, v3, v4⟩, v5, v6⟩ := tvB_spec hv
  refine ⟨[], _, h42, ?_⟩
  conv => whnf
  refine brI (fun h => ?_) (fun h => ?_)
  · have h : (ns.length : Int) ≠ t.ins := by
      have h : ((ns.length : Int) != t.ins) = true := h
      simpa using h
    rw [if_pos (.inr (.inl h))] at hA
    subst hA
    conv => whnf
    exact ⟨leZ rfl, leH_nil⟩
  have c1 : (ns.length : Int) = t.ins := by
    have h : ((ns.length : Int) != t.ins) = false := h
    simpa using h
  have h33 := z33 ns hns hnl
  obtain ⟨N, hN⟩ : ∃ N, nmR ns = N := ⟨_, rfl⟩
  rw [hN] at h33
  unfold nmR at hN
  rw [duS_twS ns ns 0 rfl] at hN
  conv => whnf
  refine ⟨[], _, h33, ?_⟩
  conv => whnf
  refine brI (fun h => ?_) (fun h => ?_)
  · have h : N = 1 := by simpa using h
    have c2 : ns.any badN = true := by
      cases e : ns.any badN with
      | true => rfl
      | false =>
        rw [if_neg (by rw [e]; simp)] at hN
        split at hN <;> omega
    rw [if_pos (.inr (.inr c2))] at hA
    subst hA
    conv => whnf
    exact ⟨leZ rfl, leH_nil⟩
  have h : N ≠ 1 := by simpa using h
  have c2 : ns.any badN = false := by
    cases e : ns.any badN with
    | false => rfl
    | true => rw [if_pos e] at hN; omega
  rw [if_neg (by rw [c2]; simp)] at hN
  rw [if_neg (by rw [hv, c2]; simp [c1])] at hA
  conv => whnf
  refine ⟨[], _, h33, ?_⟩
  conv => whnf
  refine brI (fun h => ?_) (fun h => ?_)
  · have h : N ≠ 0 := by simpa using h
    have c3 : twB ns = true := by
      cases e : twB ns with
      | true => rfl
      | false =>
        have e : twS ns 0 ns = false := e
        rw [if_neg (by rw [e]; simp)] at hN; omega
    rw [if_pos c3] at hA
    subst hA
    conv => whnf
    exact ⟨leZ rfl, leH_nil⟩
  have h : N = 0 := by simpa using h
  have c3 : twB ns = false := by
    cases e : twB ns with
    | false => rfl
    | true =>
      have e : twS ns 0 ns = true := e
      rw [if_pos e] at hN; omega
  rw [if_neg (by rw [c3]; simp)] at hA
  conv => whnf
  refine brI (fun h => ?_) (fun h => ?_)
  · have h : i < 0 := by simpa using h
    rw [if_pos (.inl h)] at hA
    subst hA
    conv => whnf
    exact ⟨leZ rfl, leH_nil⟩
  have c4 : ¬ i < 0 := by simpa using h
  conv => whnf
  refine brI (fun h => ?_) (fun h => ?_)
  · have h : decide (i ≥ IntKind.i64.wrap (t.ins + (t.ops.length : Int))) = true := h
    rw [wI (by omega)] at h
    simp only [decide_eq_true_eq] at h
    rw [if_pos (.inr h)] at hA
    subst hA
    conv => whnf
    exact ⟨leZ rfl, leH_nil⟩
  have c5 : ¬ t.ins + (t.ops.length : Int) ≤ i := by
    have h : decide (i ≥ IntKind.i64.wrap (t.ins + (t.ops.length : Int))) = false := h
    rw [wI (by omega)] at h
    simpa using h
  rw [if_neg (by omega)] at hA
  have h39 := z39 t hv (i.toNat + 1) i (by omega) (by omega) (by omega) (by omega)
  have h40 := z40 t ns hv c1 (i.toNat + 1) i (by omega) (by omega) (by omega) (by omega)
  have hsm := Sm_tr t ns hns (i.toNat + 1) i
  obtain ⟨S, hS⟩ : ∃ S, sgR t (i.toNat + 1) i = S := ⟨_, rfl⟩
  obtain ⟨e, he⟩ : ∃ e, trR t ns (i.toNat + 1) i = e := ⟨_, rfl⟩
  rw [hS] at hA h39
  rw [he] at hA h40 hsm
  have h32 := z32 e hsm
  conv => whnf
  refine ⟨[], .int .i64 (S : Nat), h39, ?_⟩
  conv => whnf
  refine brI (fun h => ?_) (fun h => ?_)
  · have h : 200 < S := by simp only [decide_eq_true_eq] at h; omega
    rw [if_pos h] at hA
    subst hA
    conv => whnf
    exact ⟨leZ rfl, leH_nil⟩
  have h : ¬ 200 < S := by simp only [decide_eq_false_iff_not] at h; omega
  rw [if_neg h] at hA
  conv => whnf
  refine ⟨[], .agg (exC e), h40, ?_⟩
  conv => whnf
  cases hok : okT e with
  | false =>
    rw [hok] at h32
    rw [if_pos hok] at hA
    subst hA
    refine ⟨[], .bool false, ?_, ?_⟩
    · cases e; exact h32
    conv => whnf
    exact ⟨leZ rfl, leH_nil⟩
  | true =>
    rw [hok] at h32
    rw [if_neg (by rw [hok]; simp)] at hA
    subst hA
    refine ⟨[], .bool true, ?_, ?_⟩
    · cases e; exact h32
    conv => whnf
    exact ⟨leA_refl rfl, leH_nil⟩
theorem Sm_trE (t : Tp) (i : Int) (ns : List Bytes) (hns : ∀ x ∈ ns, x.length < 9223372036854775808) : Sm (trE t i ns).1 := by
  unfold trE
  split
  · exact Sm_zero
  split
  · exact Sm_zero
  split
  · exact Sm_zero
  split
  · exact Sm_zero
  · exact Sm_bd t ns hns _ _ _
theorem z4 (t : Tp) (i : Int) (ns : List Bytes) (h1 : t.ops.length < 9223372036854775808) (h2 : t.outs.length < 9223372036854775808) (hns : ∀ x ∈ ns, x.length < 9223372036854775808) (hnl : ns.length < 9223372036854775808) :
    Fn 4 [] [.agg (tpC t), .int .i64 i, .sl .str ns] (.bool true) [] := by
  have h10 := f48 t i ns h1 h2 hns hnl
  have h11 := z11 t i ns h1 h2 hns hnl
  have hsm := Sm_trE t i ns hns
  obtain ⟨A, hA⟩ : ∃ A, trE t i ns = A := ⟨_, rfl⟩
  rw [hA] at h10 h11 hsm
  obtain ⟨e, err⟩ := A
  have h12 := z12 e hsm
  have h10 : Fn 10 [] [.agg (tpC t), .int .i64 i, .sl .str ns] (.tup [.agg (exC e), .int .i64 err]) [] := h10
  have h11 : Fn 11 [] [.agg (tpC t), .int .i64 i, .sl .str ns] (.tup [.agg (exC e), .int .i64 err]) [] := h11
  refine fnT hT2 hmx Tryz.func4 rfl rfl (ex := []) ?_
  conv => whnf
  refine ⟨[], _, f40, ?_⟩
  conv => whnf
  refine brI (fun h2 => ?_) (fun h2 => ?_)
  · conv => whnf
    exact ⟨leA_refl rfl, leH_nil⟩
  conv => whnf
  refine ⟨[], _, h10, ?_⟩
  conv => whnf
  refine ⟨[], _, h11, ?_⟩
  conv => whnf
  refine brI (fun _ => ?_) (fun h => absurd h (by simp))
  conv => whnf
  refine ⟨[], .bool true, ?_, ?_⟩
  · cases e; exact h12
  conv => whnf
  exact ⟨leA_refl rfl, leH_nil⟩
end Go.Proofs.YtmcdnbmamoggoaaGreat
