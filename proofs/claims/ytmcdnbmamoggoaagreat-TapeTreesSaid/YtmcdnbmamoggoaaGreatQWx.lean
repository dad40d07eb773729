/-
  tree.Names: the names of a tree's variables, each once, in order.
-/
import Derived.Test.YtmcdnbmamoggoaaGreatQWA
import Derived.Test.YtmcdnbmamoggoaaGreatQUs
import Derived.Test.YtmcdnbmamoggoaaGreatQZz
set_option linter.unusedVariables false
set_option linter.unusedSimpArgs false
namespace Go.Proofs.YtmcdnbmamoggoaaGreat
open Go Go.Sx
set_option maxRecDepth 100000
set_option maxHeartbeats 8000000
/-- The names of variables among nodes. -/
def namV : List Ex → List Bytes
  | [] => []
  | y :: l => if y.k = 2 then y.s :: namV l else namV l
theorem namV_app (l m : List Ex) : namV (l ++ m) = namV l ++ namV m := by
  induction l with
  | nil => rfl
  | cons y l ih => simp only [List.cons_append, namV, ih]; split <;> rfl
theorem namV_len (l : List Ex) : (namV l).length ≤ l.length := by
  induction l with
  | nil => exact Nat.le_refl _
  | cons y l ih => simp only [namV]; split <;> simp <;> omega
def nmE (e : Ex) : List Bytes := Go.Lib.compact (srtS (namV (visE e)))
noncomputable def body91 : Code := Tryz.f26.body.getD .skip
theorem f91 (e : Ex) (he : Sm e) : Fn 26 [] [.agg (exC e)] (.sl .str (nmE e)) [] := by
  refine fnC_sound (code := body91) hT hmx Tryz.func26 rfl rfl (ex := []) ?_
  conv => whnf
  refine sem_cut hT hmx 2 (fun _ : Unit => ⟨[.any, .ptr 1 0, .any, .ptr 3 0] ++ anys 16, [(1, .cells (exC e)), (3, .cells [.nilsl]), (6, .free), (19, .free)]⟩) (fun _ => by kernel_rfl) ?_ (fun _ => ?_)
  · conv => whnf
    refine ⟨(), ?_⟩
    ((conv => whnf); refine And.intro ?_ ?_; repeat' first | refine leL_cons ?_ ?_ | exact leA_any | exact leA_refl rfl | exact leL_nil | refine leH_cons ?_ ?_ | exact leH_nil | exact leB_free | exact leB_dead | refine leB_cells ?_ | exact leB_map rfl | exact leB_gst rfl | exact leA_nil rfl | refine leA_agg ?_ | refine leA_tup ?_ | fail)
  refine sem_key 15 (by kernel_rfl) ?_
  show SemOK Tryz.prog T Tryz.f26.results.toList [] (.sl .str (nmE e)) [] (dropS 2 body91) ⟨[.any, .ptr 1 0, .any, .ptr 3 0] ++ anys 16, [(1, .cells (exC e)), (3, .cells [.nilsl]), (6, .free), (19, .free), (15, .free)]⟩
  refine sem_rangeO hT hmx ⟨[.any, .ptr 1 0, .any, .ptr 3 0, .any, .any, .fn 71 [.ptr 6 0]] ++ anys 13, [(1, .cells (exC e)), (3, .cells [.own 15]), (6, .cells (exC e)), (19, .free), (15, .buf 9 .str [])]⟩ (by kernel_rfl) ?_ (g := 71) (caps := [.ptr 6 0]) rfl
    (i0 := 3) (k0 := 15) (bi := 1000003) (ob := 1400000) (e := 9) (k := .str) (X := List Ex) (Y := Ex) (xs := fun s => namV s) (args := fun y => [.agg (exC y)]) (next := fun s y => s ++ [y]) (x₀ := []) (xE := visE e) (r := .tup []) (ib := [.cells (exC e)]) rfl rfl rfl (by kernel_rfl) (fun _ => rfl) (fun s => s.length < 1000) ?_ ?_ ?_
  · conv => whnf
    refine ⟨[], [.cells (exC e)], .fn 71 [.ptr 2000000 0], f71 e, ?_⟩
    conv => whnf
    ((conv => whnf); refine And.intro ?_ ?_; repeat' first | refine leL_cons ?_ ?_ | exact leA_any | exact leA_refl rfl | exact leL_nil | refine leH_cons ?_ ?_ | exact leH_nil | exact leB_free | exact leB_dead | refine leB_cells ?_ | exact leB_map rfl | exact leB_gst rfl | exact leA_nil rfl | refine leA_agg ?_ | refine leA_tup ?_ | fail)
    · exact trivial
    · exact leB_new rfl rfl
  · intro l J h
    exact (f126 l J (fun s y hs => h s y hs) e he).sw [(6, 1000001)] rfl
  · intro x y hx
    by_cases hy : y.k = 2
    · refine ⟨1500015, by decide, ?_⟩
      conv => whnf
      refine brI (fun _ => ?_) (fun h => absurd hy (by simpa using h))
      conv => whnf
      refine ⟨?_, ?_⟩
      · have := namV_len x
        simp only [List.length_cons, List.length_nil]; omega
      conv => whnf
      refine ⟨?_⟩
      refine leH_cons (leB_cells (leL_cons (leA_refl rfl) leL_nil)) (leH_cons (leB_buf ?_) leH_nil)
      rw [namV_app]; simp [namV, hy]
    · refine ⟨1400000, by decide, ?_⟩
      conv => whnf
      refine brI (fun h => absurd (by simpa using h) hy) (fun _ => ?_)
      conv => whnf
      refine ⟨?_⟩
      refine leH_cons (leB_cells (leL_cons (leA_refl rfl) leL_nil)) (leH_cons (leB_buf ?_) leH_nil)
      rw [namV_app]; simp [namV, hy]
  · refine sem_end hT hmx ?_
    conv => whnf
    refine ⟨[.buf 9 .str (srtS (namV (visE e)))], _, f136 15 _ ?_, ?_⟩
    · have h1 := namV_len (visE e)
      have h2 := visE_len e
      have h3 := szN_le e
      omega
    conv => whnf
    refine ⟨[.dead], [.buf 9 .str (Go.Lib.compact (srtS (namV (visE e))))], .own 2000000, f137 15 (by omega) _, ?_⟩
    conv => whnf
    exact ⟨leA_sl rfl, leH_nil⟩
end Go.Proofs.YtmcdnbmamoggoaaGreat
