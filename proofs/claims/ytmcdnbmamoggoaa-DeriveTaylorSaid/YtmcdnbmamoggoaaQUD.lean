/-
  Simple forms: derive.one, derive.two, derive.power.
-/
import Derived.Test.YtmcdnbmamoggoaaQUc
import Derived.Test.YtmcdnbmamoggoaaQVa
set_option linter.unusedVariables false
set_option linter.unusedSimpArgs false
namespace Go.Proofs.Ytmcdnbmamoggoaa
open Go Go.Sx
set_option maxRecDepth 100000
set_option maxHeartbeats 8000000
theorem VT_l {e : Ex} (h : VT e) : e.k = 7 → e.l ≠ [] := by
  cases h with
  | num r hr => simp [ratE, Ex.k]
  | var s hs => simp [varE, Ex.k]
  | un k a hk ha => simp [opE, Ex.l]
  | pow n a h1 h2 ha => simp [opE, Ex.l]
  | bin k a b hk ha hb => simp [opE, Ex.l]
theorem f115 {k : Int} {a : Ex} (hk : K1 k) (ha : VT a) : Fn 115 [] [.int .i64 k, .agg (exC a)] (.agg (exC (op1 k 0 a))) [] := by
  rcases hk with rfl | rfl | rfl | rfl | rfl | rfl
  · exact f115_7 a (VT_l ha)
  · refine fnT hT hmx Try.func115 rfl rfl (ex := []) ?_
    conv => whnf
    rw [Ex.eta2]
    refine ⟨[], _, f117_9 0 a (by omega), ?_⟩
    conv => whnf
    exact ⟨leA_ex rfl, leH_nil⟩
  · refine fnT hT hmx Try.func115 rfl rfl (ex := []) ?_
    conv => whnf
    rw [Ex.eta2]
    refine ⟨[], _, f117_10 0 a (by omega), ?_⟩
    conv => whnf
    exact ⟨leA_ex rfl, leH_nil⟩
  · refine fnT hT hmx Try.func115 rfl rfl (ex := []) ?_
    conv => whnf
    rw [Ex.eta2]
    refine ⟨[], _, f117_11 0 a (by omega), ?_⟩
    conv => whnf
    exact ⟨leA_ex rfl, leH_nil⟩
  · refine fnT hT hmx Try.func115 rfl rfl (ex := []) ?_
    conv => whnf
    rw [Ex.eta2]
    refine ⟨[], _, f117_12 0 a (by omega), ?_⟩
    conv => whnf
    exact ⟨leA_ex rfl, leH_nil⟩
  · refine fnT hT hmx Try.func115 rfl rfl (ex := []) ?_
    conv => whnf
    rw [Ex.eta2]
    refine ⟨[], _, f117_13 0 a (by omega), ?_⟩
    conv => whnf
    exact ⟨leA_ex rfl, leH_nil⟩
theorem f116 {n : Int} {a : Ex} (hn : n ≤ 1000) : Fn 116 [] [.agg (exC a), .int .i64 n] (.agg (exC (op1 8 n a))) [] := by
  refine fnT hT hmx Try.func116 rfl rfl (ex := []) ?_
  conv => whnf
  rw [Ex.eta2]
  refine ⟨[], _, f117_8 n a hn, ?_⟩
  conv => whnf
  exact ⟨leA_ex rfl, leH_nil⟩
theorem f75 {k : Int} {a b : Ex} (hk : K2 k) (hb : VT b) : Fn 75 [] [.int .i64 k, .agg (exC a), .agg (exC b)] (.agg (exC (op2 k a b))) [] := by
  rcases hk with rfl | rfl | rfl | rfl
  · refine fnT hT hmx Try.func75 rfl rfl (ex := []) ?_
    conv => whnf
    rw [Ex.eta2, Ex.eta2]
    refine ⟨[], _, f117_3 a b, ?_⟩
    conv => whnf
    exact ⟨leA_ex rfl, leH_nil⟩
  · refine fnT hT hmx Try.func75 rfl rfl (ex := []) ?_
    conv => whnf
    rw [Ex.eta2, Ex.eta2]
    refine ⟨[], _, f117_4 a b (VT_l hb), ?_⟩
    conv => whnf
    exact ⟨leA_ex rfl, leH_nil⟩
  · refine fnT hT hmx Try.func75 rfl rfl (ex := []) ?_
    conv => whnf
    rw [Ex.eta2, Ex.eta2]
    refine ⟨[], _, f117_5 a b, ?_⟩
    conv => whnf
    exact ⟨leA_ex rfl, leH_nil⟩
  · refine fnT hT hmx Try.func75 rfl rfl (ex := []) ?_
    conv => whnf
    rw [Ex.eta2, Ex.eta2]
    refine ⟨[], _, f117_6 a b, ?_⟩
    conv => whnf
    exact ⟨leA_ex rfl, leH_nil⟩
end Go.Proofs.Ytmcdnbmamoggoaa
