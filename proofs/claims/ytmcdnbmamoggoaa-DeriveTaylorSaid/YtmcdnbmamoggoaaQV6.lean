/-
  The law of polynomials, as plain functions.
-/
import Derived.Test.YtmcdnbmamoggoaaQVb
set_option linter.unusedVariables false
set_option linter.unusedSimpArgs false
namespace Go.Proofs.Ytmcdnbmamoggoaa
open Go Go.Sx
/-- What degree answers: the degree, if no part has too great a one. -/
def dgE (nm : Bytes) (e : Ex) : Int × Bool := match degE nm e with
  | some n => (n, true)
  | none => (0, false)
/-- What Degree answers. -/
def dgB (e : Ex) (nm : Bytes) : Int × Bool := if okT e && polE e then dgE nm e else (0, false)
def dgR (e : Ex) (nm : Bytes) : Int := match degE nm e with
  | some n => n
  | none => -1
theorem dg_law {e : Ex} {nm : Bytes} (h : okT e = true) (hp : polE e = true) {n : Nat} (hn : degE nm e = some n) (hd : okT (diffE nm (simE e)) = true) :
    (okT (diffE nm (simE e)) && polE (diffE nm (simE e))) = true ∧ ∃ m : Nat, dgB (diffE nm (simE e)) nm = ((m : Int), true) ∧ (m : Int) ≤ max ((n : Int) - 1) 0 := by
  obtain ⟨p, m, hm, hle⟩ := pd_all (okT_VT h) hp hn
  refine ⟨by rw [hd, p]; rfl, m, ?_, by omega⟩
  unfold dgB dgE
  rw [hd, p, hm]; rfl
end Go.Proofs.Ytmcdnbmamoggoaa
