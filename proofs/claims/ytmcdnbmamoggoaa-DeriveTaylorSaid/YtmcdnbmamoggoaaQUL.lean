/-
  The examples of the chapter (awake).
-/
import Derived.Test.YtmcdnbmamoggoaaQUK
import Derived.Test.YtmcdnbmamoggoaaQUJ
set_option linter.unusedVariables false
set_option linter.unusedSimpArgs false
namespace Go.Proofs.Ytmcdnbmamoggoaa
open Go Go.Sx
set_option maxRecDepth 100000
set_option maxHeartbeats 8000000
abbrev xE : Ex := varE [120]
abbrev yE : Ex := varE [121]
abbrev exE : Ex := opE 3 0 [opE 5 0 [xE, yE], numE 3]
abbrev flE : List Eqn := [⟨[120], opE 7 0 [yE]⟩, ⟨[121], xE⟩]
theorem Sm_x : Sm xE := Sm_var (by decide)
theorem Sm_y : Sm yE := Sm_var (by decide)
theorem Sm_n : Sm (numE 3) := VT_Sm (VT_numE (by omega))
theorem Sm_op {k n : Int} {l : List Ex} (h : l.length < 9223372036854775808) (hl : SmL l) : Sm (opE k n l) := by
  simp only [opE, Sm]; exact ⟨by simp, h, hl⟩
theorem Sm_e : Sm exE := Sm_op (by decide) ⟨Sm_op (by decide) ⟨Sm_x, Sm_y, trivial⟩, Sm_n, trivial⟩
theorem aw_d : dfE exE [120] = (yE, 0) := by kernel_rfl
theorem aw_a : alE xE flE = (opE 7 0 [yE], 0) := by kernel_rfl
theorem aw_p : poB exE = true := by kernel_rfl
theorem aw_s1 : sameE yE yE = true := by kernel_rfl
theorem aw_s2 : sameE (opE 7 0 [yE]) (opE 7 0 [yE]) = true := by kernel_rfl
theorem f14 : Fn 14 [] [] (.bool true) [] := by
  have h16 : Fn 16 [] [.agg (exC exE), .str [120]] (dfV (yE, 0)) [] := by rw [← aw_d]; exact f16 exE [120] Sm_e (by decide)
  have h36 : Fn 36 [] [.agg (exC xE), .sl .eqn flE] (dfV (opE 7 0 [yE], 0)) [] := by
    rw [← aw_a]
    refine f36 xE flE Sm_x ?_ (by decide)
    intro q hq
    simp only [List.mem_cons, List.not_mem_nil, or_false] at hq
    rcases hq with rfl | rfl
    · exact ⟨Sm_op (by decide) ⟨Sm_y, trivial⟩, by decide⟩
    · exact ⟨Sm_x, by decide⟩
  have h22 : Fn 22 [] [.agg (exC exE)] (.bool true) [] := by rw [← aw_p]; exact f22 exE Sm_e
  have hs1 : Fn 19 [] [.agg (exC yE), .agg (exC yE)] (.bool true) [] := by rw [← aw_s1]; exact f19 yE yE
  have hs2 : Fn 19 [] [.agg (exC (opE 7 0 [yE])), .agg (exC (opE 7 0 [yE]))] (.bool true) [] := by rw [← aw_s2]; exact f19 _ _
  refine fnT hT hmx Try.func14 rfl rfl (ex := []) ?_
  conv => whnf
  refine ⟨[], _, f18 [120], ?_⟩
  conv => whnf
  refine ⟨[], _, f18 [121], ?_⟩
  conv => whnf
  refine ⟨[], _, f59 3, ?_⟩
  conv => whnf
  (refine ⟨by kernel_rfl, by kernel_rfl, ?_⟩; (conv => whnf))
  refine ⟨[], _, h16, ?_⟩
  conv => whnf
  refine ⟨[], _, h36, ?_⟩
  conv => whnf
  refine ⟨[], _, hs1, ?_⟩
  conv => whnf
  refine ⟨[], _, hs2, ?_⟩
  conv => whnf
  refine ⟨[], _, h22, ?_⟩
  conv => whnf
  exact ⟨leA_refl rfl, leH_nil⟩
end Go.Proofs.Ytmcdnbmamoggoaa
