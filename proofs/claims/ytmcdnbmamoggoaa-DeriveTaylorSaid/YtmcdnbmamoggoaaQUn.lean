/-
  Degrees: derive.degree of operations with two operands: all.
-/
import Derived.Test.YtmcdnbmamoggoaaQUM
import Derived.Test.YtmcdnbmamoggoaaQUN1
import Derived.Test.YtmcdnbmamoggoaaQUN2
import Derived.Test.YtmcdnbmamoggoaaQUN3
import Derived.Test.YtmcdnbmamoggoaaQUG
set_option linter.unusedVariables false
set_option linter.unusedSimpArgs false
namespace Go.Proofs.Ytmcdnbmamoggoaa
open Go Go.Sx
set_option maxRecDepth 100000
set_option maxHeartbeats 8000000
theorem f68_two (nm : Bytes) (k : Int) (a b : Ex) (hk : K2 k) (hb : ∀ i, degE nm a = some i → i ≤ 1000) (hb2 : ∀ i, degE nm b = some i → i ≤ 1000) (ih : DegOK nm a) (ih2 : DegOK nm b) : DegOK nm (opE k 0 [a, b]) := by
  unfold DegOK at ih ih2 ⊢
  rw [deg_two nm (K2_ne hk)]
  cases ha : degE nm a with
  | none => rw [ha] at ih; exact f68_two1 nm k a b hk _ ih
  | some i =>
    rw [ha] at ih
    cases hc : degE nm b with
    | none => rw [hc] at ih2; exact f68_two2 nm k a b hk i (hb i ha) ih ih2
    | some j => rw [hc] at ih2; exact f68_two3 nm k a b hk i j (hb i ha) (hb2 j hc) ih ih2
theorem f68 (nm : Bytes) {e : Ex} (h : VT e) : DegOK nm e := by
  induction h with
  | num r hr => exact f68_num nm r
  | var s hs => exact f68_var nm s
  | un k a hk ha ih => exact f68_one nm k a hk (fun i h => deg_le nm ha h) ih
  | pow n a h1 h2 ha ih => exact f68_pow nm n a h1 h2 (fun i h => deg_le nm ha h) ih
  | bin k a b hk ha hb ih1 ih2 => exact f68_two nm k a b hk (fun i h => deg_le nm ha h) (fun i h => deg_le nm hb h) ih1 ih2
end Go.Proofs.Ytmcdnbmamoggoaa

/-
  Degrees: derive.Degree.
-/
namespace Go.Proofs.Ytmcdnbmamoggoaa
open Go Go.Sx
set_option maxRecDepth 100000
set_option maxHeartbeats 8000000
abbrev dgW (p : Int × Bool) : AV := .tup [.int .i64 p.1, .bool p.2]
theorem dgB_no {e : Ex} {nm : Bytes} (h : poB e = false) : dgB e nm = (0, false) := by
  unfold dgB; unfold poB at h; rw [h]; rfl
theorem dgB_yes {e : Ex} {nm : Bytes} (h : poB e = true) : dgB e nm = dgE nm e := by
  unfold dgB; unfold poB at h; rw [h]; rfl
theorem f21 (e : Ex) (nm : Bytes) (he : Sm e) : Fn 21 [] [.agg (exC e), .str nm] (dgW (dgB e nm)) [] := by
  cases hp : poB e with
  | false =>
    rw [dgB_no hp]
    refine fnT hT hmx Try.func21 rfl rfl (ex := []) ?_
    conv => whnf
    refine ⟨[], .bool false, (by rw [← hp]; exact f22 e he), ?_⟩
    conv => whnf
    exact ⟨leA_refl rfl, leH_nil⟩
  | true =>
    rw [dgB_yes hp]
    have hv : VT e := okT_VT (by unfold poB at hp; exact (Bool.and_eq_true_iff.1 hp).1)
    have h68 := f68 nm hv
    unfold DegOK at h68
    unfold dgE
    cases hd : degE nm e with
    | none =>
      rw [hd] at h68
      refine fnT hT hmx Try.func21 rfl rfl (ex := []) ?_
      conv => whnf
      refine ⟨[], .bool true, (by rw [← hp]; exact f22 e he), ?_⟩
      conv => whnf
      refine ⟨[], _, h68, ?_⟩
      conv => whnf
      exact ⟨leA_refl rfl, leH_nil⟩
    | some n =>
      rw [hd] at h68
      refine fnT hT hmx Try.func21 rfl rfl (ex := []) ?_
      conv => whnf
      refine ⟨[], .bool true, (by rw [← hp]; exact f22 e he), ?_⟩
      conv => whnf
      refine ⟨[], _, h68, ?_⟩
      conv => whnf
      exact ⟨leA_refl rfl, leH_nil⟩
end Go.Proofs.Ytmcdnbmamoggoaa
