/-
  Degrees: derive.degree, derive.Degree.
-/
import Derived.Test.YtmcdnbmamoggoaaQV6
import Derived.Test.YtmcdnbmamoggoaaQUJ
import Derived.Test.YtmcdnbmamoggoaaQSxY
set_option linter.unusedVariables false
set_option linter.unusedSimpArgs false
namespace Go.Proofs.Ytmcdnbmamoggoaa
open Go Go.Sx
set_option maxRecDepth 100000
set_option maxHeartbeats 8000000
/-- What degree answers: of a degree that is too great nothing is said. -/
def dgV (o : Option Nat) : AV := match o with
  | some n => .tup [.int .i64 n, .bool true]
  | none => .tup [.any, .bool false]
abbrev DegOK (nm : Bytes) (e : Ex) : Prop := Fn 68 [] [.agg (exC e), .str nm] (dgV (degE nm e)) []
theorem leA_dg {h h' : Hp} {n : Int} {m : Nat} {f : Nat → Nat} (hn : n = (m : Int)) : leA h h' (.tup [.int .i64 n, .bool (decide (n ≤ 1000))]) ((dgV (cap m)).mapI f) := by
  subst hn
  unfold cap
  by_cases hm : m ≤ 1000
  · rw [if_pos hm, show decide ((m : Int) ≤ 1000) = true by simp; omega]
    exact leA_refl rfl
  · rw [if_neg hm, show decide ((m : Int) ≤ 1000) = false by simp; omega]
    exact leA_tup (leL_cons leA_any (leL_cons (leA_refl rfl) leL_nil))
theorem leA_dgno {h h' : Hp} {n : Int} {f : Nat → Nat} {o : Option Nat} (ho : o = none) : leA h h' (.tup [.int .i64 n, .bool false]) ((dgV o).mapI f) := by
  subst ho; exact leA_tup (leL_cons leA_any (leL_cons (leA_refl rfl) leL_nil))
theorem f68_num (nm : Bytes) (r : Rt) : DegOK nm (ratE r) := by
  unfold DegOK
  rw [deg_rat]
  refine fnT hT hmx Try.func68 rfl rfl (ex := []) ?_
  conv => whnf
  refine ⟨Unit, fun _ => True, fun _ => [(23, .int .i64 0), (6, .int .i64 0)], fun _ => [], fun _ => 0, (), trivial, ?_, fun _ _ => ?_⟩
  · ((conv => whnf); refine And.intro ?_ ?_; repeat' first | refine leL_cons ?_ ?_ | exact leA_any | exact leA_refl rfl | exact leL_nil | refine leH_cons ?_ ?_ | exact leH_nil | exact leB_free | exact leB_dead | refine leB_cells ?_ | exact leB_map rfl | exact leB_gst rfl | exact leA_nil rfl | refine leA_agg ?_ | refine leA_tup ?_ | fail)
  · (refine ⟨by kernel_rfl, ?_⟩; (conv => whnf))
    exact ⟨leA_refl rfl, leH_nil⟩
theorem f68_var (nm s : Bytes) : DegOK nm (varE s) := by
  unfold DegOK
  rw [deg_var]
  refine fnT hT hmx Try.func68 rfl rfl (ex := []) ?_
  conv => whnf
  refine brI (fun h => ?_) (fun h => ?_)
  · have h : (s == nm) = true := h
    rw [if_pos (by simpa using h)]
    conv => whnf
    refine ⟨Unit, fun _ => True, fun _ => [(23, .int .i64 0), (6, .int .i64 1)], fun _ => [], fun _ => 0, (), trivial, ?_, fun _ _ => ?_⟩
    · ((conv => whnf); refine And.intro ?_ ?_; repeat' first | refine leL_cons ?_ ?_ | exact leA_any | exact leA_refl rfl | exact leL_nil | refine leH_cons ?_ ?_ | exact leH_nil | exact leB_free | exact leB_dead | refine leB_cells ?_ | exact leB_map rfl | exact leB_gst rfl | exact leA_nil rfl | refine leA_agg ?_ | refine leA_tup ?_ | fail)
    · (refine ⟨by kernel_rfl, ?_⟩; (conv => whnf))
      exact ⟨leA_refl rfl, leH_nil⟩
  · have h : (s == nm) = false := h
    rw [if_neg (by simpa using h)]
    conv => whnf
    refine ⟨Unit, fun _ => True, fun _ => [(23, .int .i64 0), (6, .int .i64 0)], fun _ => [], fun _ => 0, (), trivial, ?_, fun _ _ => ?_⟩
    · ((conv => whnf); refine And.intro ?_ ?_; repeat' first | refine leL_cons ?_ ?_ | exact leA_any | exact leA_refl rfl | exact leL_nil | refine leH_cons ?_ ?_ | exact leH_nil | exact leB_free | exact leB_dead | refine leB_cells ?_ | exact leB_map rfl | exact leB_gst rfl | exact leA_nil rfl | refine leA_agg ?_ | refine leA_tup ?_ | fail)
    · (refine ⟨by kernel_rfl, ?_⟩; (conv => whnf))
      exact ⟨leA_refl rfl, leH_nil⟩
theorem f68_one (nm : Bytes) (k : Int) (a : Ex) (hk : K1 k) (hb : ∀ i, degE nm a = some i → i ≤ 1000) (ih : DegOK nm a) : DegOK nm (opE k 0 [a]) := by
  unfold DegOK at ih ⊢
  rw [deg_one nm (K1_ne hk)]
  cases ha : degE nm a with
  | none =>
    rw [ha] at ih
    refine fnT hT hmx Try.func68 rfl rfl (ex := []) ?_
    conv => whnf
    refine brI (fun h => absurd (show k = 2 by simpa [opE, Ex.k] using h) (by unfold K1 at hk; omega)) (fun _ => ?_)
    conv => whnf
    refine ⟨Unit, fun _ => True, fun _ => [(23, .int .i64 0), (6, .int .i64 0)], fun _ => [], fun _ => 0, (), trivial, ?_, fun _ _ => ?_⟩
    · ((conv => whnf); refine And.intro ?_ ?_; repeat' first | refine leL_cons ?_ ?_ | exact leA_any | exact leA_refl rfl | exact leL_nil | refine leH_cons ?_ ?_ | exact leH_nil | exact leB_free | exact leB_dead | refine leB_cells ?_ | exact leB_map rfl | exact leB_gst rfl | exact leA_nil rfl | refine leA_agg ?_ | refine leA_tup ?_ | fail)
    · (refine ⟨by kernel_rfl, ?_⟩; (conv => whnf))
      refine ix0 ?_
      conv => whnf
      refine ⟨[], _, ih, ?_⟩
      conv => whnf
      exact ⟨leA_dgno rfl, leH_nil⟩
  | some i =>
    rw [ha] at ih
    have hi := hb i ha
    refine fnT hT hmx Try.func68 rfl rfl (ex := []) ?_
    conv => whnf
    refine brI (fun h => absurd (show k = 2 by simpa [opE, Ex.k] using h) (by unfold K1 at hk; omega)) (fun _ => ?_)
    conv => whnf
    refine ⟨Bool, fun _ => True, fun x => [(23, .int .i64 (if x then 1 else 0)), (6, .int .i64 (if x then i else 0))], fun _ => [], fun x => if x then 0 else 1, false, trivial, ?_, fun x _ => ?_⟩
    · ((conv => whnf); refine And.intro ?_ ?_; repeat' first | refine leL_cons ?_ ?_ | exact leA_any | exact leA_refl rfl | exact leL_nil | refine leH_cons ?_ ?_ | exact leH_nil | exact leB_free | exact leB_dead | refine leB_cells ?_ | exact leB_map rfl | exact leB_gst rfl | exact leA_nil rfl | refine leA_agg ?_ | refine leA_tup ?_ | fail)
    · cases x with
      | false =>
        (refine ⟨by kernel_rfl, ?_⟩; (conv => whnf))
        refine ix0 ?_
        conv => whnf
        refine ⟨[], _, ih, ?_⟩
        conv => whnf
        refine brI (fun h => absurd (show k = 5 by simpa [opE, Ex.k] using h) (by unfold K1 at hk; omega)) (fun _ => ?_)
        conv => whnf
        refine brI (fun h => absurd (show k = 8 by simpa [opE, Ex.k] using h) (by unfold K1 at hk; omega)) (fun _ => ?_)
        conv => whnf
        refine brI (fun _ => ?_) (fun h => absurd (show k = 6 by simpa [opE, Ex.k] using h) (by unfold K1 at hk; omega))
        conv => whnf
        refine ⟨true, trivial, by decide, ?_⟩
        ((conv => whnf); refine And.intro ?_ ?_; repeat' first | refine leL_cons ?_ ?_ | exact leA_any | exact leA_refl rfl | exact leL_nil | refine leH_cons ?_ ?_ | exact leH_nil | exact leB_free | exact leB_dead | refine leB_cells ?_ | exact leB_map rfl | exact leB_gst rfl | exact leA_nil rfl | refine leA_agg ?_ | refine leA_tup ?_ | fail)
        exact leA_int (by simp only [if_true]; split <;> simp_all <;> omega)
      | true =>
        (refine ⟨by kernel_rfl, ?_⟩; (conv => whnf))
        have e1 : deg1 k 0 i = i := by unfold deg1; rw [if_neg (by unfold K1 at hk; omega)]
        refine ⟨?_, leH_nil⟩
        show leA _ _ _ ((dgV (cap (deg1 k 0 i))).mapI _)
        rw [e1]
        exact leA_dg rfl
theorem f68_pow (nm : Bytes) (n : Int) (a : Ex) (h0 : 0 ≤ n) (h16 : n ≤ 16) (hb : ∀ i, degE nm a = some i → i ≤ 1000) (ih : DegOK nm a) : DegOK nm (opE 8 n [a]) := by
  unfold DegOK at ih ⊢
  rw [deg_one nm (by omega)]
  cases ha : degE nm a with
  | none =>
    rw [ha] at ih
    refine fnT hT hmx Try.func68 rfl rfl (ex := []) ?_
    conv => whnf
    refine ⟨Unit, fun _ => True, fun _ => [(23, .int .i64 0), (6, .int .i64 0)], fun _ => [], fun _ => 0, (), trivial, ?_, fun _ _ => ?_⟩
    · ((conv => whnf); refine And.intro ?_ ?_; repeat' first | refine leL_cons ?_ ?_ | exact leA_any | exact leA_refl rfl | exact leL_nil | refine leH_cons ?_ ?_ | exact leH_nil | exact leB_free | exact leB_dead | refine leB_cells ?_ | exact leB_map rfl | exact leB_gst rfl | exact leA_nil rfl | refine leA_agg ?_ | refine leA_tup ?_ | fail)
    · (refine ⟨by kernel_rfl, ?_⟩; (conv => whnf))
      refine ix0 ?_
      conv => whnf
      refine ⟨[], _, ih, ?_⟩
      conv => whnf
      exact ⟨leA_dgno rfl, leH_nil⟩
  | some i =>
    rw [ha] at ih
    have hi := hb i ha
    have e1 : deg1 8 n i = i * n.toNat := by simp [deg1]
    have e2 : i * n.toNat ≤ 1000 * 16 := Nat.mul_le_mul hi (by omega)
    have e3 : (i : Int) * n = ((i * n.toNat : Nat) : Int) := by rw [Int.natCast_mul, Int.toNat_of_nonneg h0]
    refine fnT hT hmx Try.func68 rfl rfl (ex := []) ?_
    conv => whnf
    refine ⟨Bool, fun _ => True, fun x => [(23, .int .i64 (if x then 1 else 0)), (6, .int .i64 (if x then ((i * n.toNat : Nat) : Int) else 0))], fun _ => [], fun x => if x then 0 else 1, false, trivial, ?_, fun x _ => ?_⟩
    · ((conv => whnf); refine And.intro ?_ ?_; repeat' first | refine leL_cons ?_ ?_ | exact leA_any | exact leA_refl rfl | exact leL_nil | refine leH_cons ?_ ?_ | exact leH_nil | exact leB_free | exact leB_dead | refine leB_cells ?_ | exact leB_map rfl | exact leB_gst rfl | exact leA_nil rfl | refine leA_agg ?_ | refine leA_tup ?_ | fail)
    · cases x with
      | false =>
        (refine ⟨by kernel_rfl, ?_⟩; (conv => whnf))
        refine ix0 ?_
        conv => whnf
        refine ⟨[], _, ih, ?_⟩
        conv => whnf
        refine ⟨true, trivial, by decide, ?_⟩
        ((conv => whnf); refine And.intro ?_ ?_; repeat' first | refine leL_cons ?_ ?_ | exact leA_any | exact leA_refl rfl | exact leL_nil | refine leH_cons ?_ ?_ | exact leH_nil | exact leB_free | exact leB_dead | refine leB_cells ?_ | exact leB_map rfl | exact leB_gst rfl | exact leA_nil rfl | refine leA_agg ?_ | refine leA_tup ?_ | fail)
        exact leA_int (by show IntKind.i64.wrap ((i : Int) * n) = _; rw [e3, wI (by omega)]; rfl)
      | true =>
        (refine ⟨by kernel_rfl, ?_⟩; (conv => whnf))
        refine ⟨?_, leH_nil⟩
        show leA _ _ _ ((dgV (cap (deg1 8 n i))).mapI _)
        rw [e1]
        exact leA_dg rfl
end Go.Proofs.Ytmcdnbmamoggoaa
