/-
  The examples of the chapter: law 17's awake.
-/
import Derived.Test.YtnijmbnkcmhfpaaGreatDoorQYc
import Derived.Test.YtnijmbnkcmhfpaaGreatDoorQYd
import Derived.Test.YtnijmbnkcmhfpaaGreatDoorQWx
import Derived.Test.YtnijmbnkcmhfpaaGreatDoorQTd
set_option linter.unusedVariables false
set_option linter.unusedSimpArgs false
namespace Go.Proofs.YtnijmbnkcmhfpaaGreatDoor
open Go Go.Sx
set_option maxRecDepth 100000
set_option maxHeartbeats 8000000
/-- 1 / (x - 1). -/
def eB : Ex := opE 6 0 [ratE ⟨1, 1⟩, opE 4 0 [varE [120], ratE ⟨1, 1⟩]]
theorem exBv : exF eB [[120]] [⟨1, 1⟩] = (⟨0, 0⟩, 10) := by
  have h1 : xcE (envL [[120]] [⟨1, 1⟩] []) eB = (⟨0, 0⟩, 10) := by decide +kernel
  have h2 : (nmE eB).all (hasN (envL [[120]] [⟨1, 1⟩] [])) = true := by
    rw [List.all_eq_true]
    intro n hn
    rw [mem_nmE (by decide +kernel)] at hn
    obtain ⟨y, hy, hk, rfl⟩ := hn
    have h : ∀ y ∈ preE eB, y.k = 2 → hasN (envL [[120]] [⟨1, 1⟩] []) y.s = true := by decide +kernel
    exact h y hy hk
  unfold exF
  rw [if_pos ⟨by decide, by decide +kernel, by decide +kernel, by decide +kernel, h2⟩, h1]
  rfl
theorem y4 : Fn 4 G0 [] (.bool true) G0 := by
  have h5 := f51 eB [[120]] [⟨1, 1⟩] (by simp [eB, opE, ratE, varE, Sm, SmL]) (by decide) (by decide)
  rw [exBv] at h5
  refine fnT hT4 hmx Tryz.func4 rfl rfl (ex := []) ?_
  conv => whnf
  refine ⟨[], _, y7 [120], ?_⟩
  conv => whnf
  refine ⟨[], _, y9 5 [xE, xE], ?_⟩
  conv => whnf
  refine ⟨[], _, y9 4 [opE 5 0 [xE, xE], xE], ?_⟩
  conv => whnf
  refine ⟨[], _, y10z, ?_⟩
  conv => whnf
  refine ⟨[.gst JT], _, y8, ?_⟩
  conv => whnf
  (refine ⟨by kernel_rfl, by kernel_rfl, ?_⟩; (conv => whnf))
  refine ⟨[], _, y11 1, ?_⟩
  conv => whnf
  refine ⟨[], _, y11 1, ?_⟩
  conv => whnf
  refine ⟨[], _, y9 4 [xE, ratE ⟨1, 1⟩], ?_⟩
  conv => whnf
  refine ⟨[], _, y9 6 [ratE ⟨1, 1⟩, opE 4 0 [xE, ratE ⟨1, 1⟩]], ?_⟩
  conv => whnf
  refine ⟨[], _, h5, ?_⟩
  conv => whnf
  (refine ⟨by kernel_rfl, by kernel_rfl, ?_⟩; (conv => whnf))
  refine ⟨[], _, y10m, ?_⟩
  conv => whnf
  refine ⟨[], _, y12 dm d1 D3m D31, ?_⟩
  conv => whnf
  (refine ⟨by kernel_rfl, by kernel_rfl, ?_⟩; (conv => whnf))
  exact ⟨leA_refl rfl, leG⟩
end Go.Proofs.YtnijmbnkcmhfpaaGreatDoor
