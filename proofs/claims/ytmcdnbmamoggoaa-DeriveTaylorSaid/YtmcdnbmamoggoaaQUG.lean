/-
  Derivatives: derive.variable, derive.Diff, derive.Simplify; a variable's tree.
-/
import Derived.Test.YtmcdnbmamoggoaaQUE
import Derived.Test.YtmcdnbmamoggoaaQUf
import Derived.Test.YtmcdnbmamoggoaaQCk
set_option linter.unusedVariables false
set_option linter.unusedSimpArgs false
namespace Go.Proofs.Ytmcdnbmamoggoaa
open Go Go.Sx
set_option maxRecDepth 100000
set_option maxHeartbeats 8000000
theorem ok_var (s : Bytes) : okT (varE s) = nameB s := by
  rw [Bool.eq_iff_iff, okT_iff]
  constructor
  · rintro ⟨h, _⟩
    have h : nodeB (varE s) = true ∧ True := h
    have h : (decide ((⟨0, 0⟩ : Rt) = ⟨0, 0⟩) && nameB s && decide ((0 : Int) = 0) && decide (([] : List Ex).length = 0)) = true := h.1
    simpa using h
  · intro h
    exact ⟨VT_VS (VT.var s h), by simp [varE, depE, depL], by simp [varE, sizE, sizL]⟩
theorem Sm_var {s : Bytes} (h : s.length < 9223372036854775808) : Sm (varE s) := by
  simp only [varE, Sm, SmL, List.length_nil]; exact ⟨h, by omega, trivial⟩
theorem f62 (s : Bytes) (h : s.length < 9223372036854775808) : Fn 62 [] [.str s] (.bool (nameB s)) [] := by
  rw [← ok_var]
  refine fnT hT hmx Try.func62 rfl rfl (ex := []) ?_
  conv => whnf
  refine ⟨[], _, nil1 (f17 (varE s) (Sm_var h)), ?_⟩
  conv => whnf
  exact ⟨leA_refl rfl, leH_nil⟩
theorem f18 (s : Bytes) : Fn 18 [] [.str s] (.agg (exC (varE s))) [] := by
  refine fnT hT hmx Try.func18 rfl rfl (ex := []) ?_
  conv => whnf
  (refine And.intro ?_ ?_; repeat' first | exact leL_nil | exact leH_nil | exact leA_any | exact leA_refl rfl | exact leA_nil rfl | refine leA_agg ?_ | refine leA_tup ?_ | exact leB_free | exact leB_dead | refine leL_cons ?_ ?_ | refine leH_cons ?_ ?_ | refine leB_cells ?_ | fail)
theorem dfE_no1 {e : Ex} {nm : Bytes} (h : okT e = false) : dfE e nm = (zeroE, 1) := by simp [dfE, h]
theorem dfE_no2 {e : Ex} {nm : Bytes} (h : nameB nm = false) : dfE e nm = (zeroE, 1) := by simp [dfE, h]
theorem dfE_no3 {e : Ex} {nm : Bytes} (h : okT e = true) (h2 : nameB nm = true) (h3 : okT (diffE nm (simE e)) = false) : dfE e nm = (zeroE, 5) := by simp [dfE, h, h2, h3]
theorem dfE_yes {e : Ex} {nm : Bytes} (h : okT e = true) (h2 : nameB nm = true) (h3 : okT (diffE nm (simE e)) = true) : dfE e nm = (diffE nm (simE e), 0) := by simp [dfE, h, h2, h3]
abbrev dfV (p : Ex × Int) : AV := .tup [.agg (exC p.1), .int .i64 p.2]
theorem leA_dfV {h h' : Hp} {a : Ex} {n : Int} {p : Ex × Int} (hp : p = (a, n)) : leA h h' (.tup [.agg (exC a), .int .i64 n]) (dfV p) := by subst hp; exact leA_refl rfl
theorem leA_zero {h h' : Hp} {n : Int} {p : Ex × Int} (hp : p = (zeroE, n)) : leA h h' (.tup [.agg [.int .i64 0, .int .i64 0, .int .i64 0, .str [], .int .i64 0, .nilsl], .int .i64 n]) (dfV p) := by
  subst hp
  exact leA_tup (leL_cons (leA_agg (leL_cons (leA_refl rfl) (leL_cons (leA_refl rfl) (leL_cons (leA_refl rfl) (leL_cons (leA_refl rfl) (leL_cons (leA_refl rfl) (leL_cons (leA_nil rfl) leL_nil))))))) (leL_cons (leA_refl rfl) leL_nil))
theorem f16 (e : Ex) (nm : Bytes) (he : Sm e) (hn : nm.length < 9223372036854775808) : Fn 16 [] [.agg (exC e), .str nm] (dfV (dfE e nm)) [] := by
  refine fnT hT hmx Try.func16 rfl rfl (ex := []) ?_
  conv => whnf
  refine cbI [] (okT e) (f17 e he) (fun h1 => ?_) (fun h1 => ?_)
  · conv => whnf
    refine cbI [] (nameB nm) (f62 nm hn) (fun h2 => ?_) (fun h2 => ?_)
    · conv => whnf
      have hv := okT_VT h1
      refine ⟨[], _, f64 hv, ?_⟩
      conv => whnf
      refine ⟨[], _, f63 nm (VT_sim hv), ?_⟩
      conv => whnf
      refine cbI [] (okT (diffE nm (simE e))) (f17 (diffE nm (simE e)) (VT_Sm (VT_diff nm (VT_sim hv)))) (fun h3 => ?_) (fun h3 => ?_)
      · conv => whnf
        exact ⟨leA_dfV (dfE_yes h1 h2 h3), leH_nil⟩
      · conv => whnf
        exact ⟨leA_zero (dfE_no3 h1 h2 h3), leH_nil⟩
    · conv => whnf
      exact ⟨leA_zero (dfE_no2 h2), leH_nil⟩
  · conv => whnf
    exact ⟨leA_zero (dfE_no1 h1), leH_nil⟩
def siE (e : Ex) : Ex := if okT e then simE e else zeroE
theorem f25 (e : Ex) (he : Sm e) : Fn 25 [] [.agg (exC e)] (.agg (exC (siE e))) [] := by
  refine fnT hT hmx Try.func25 rfl rfl (ex := []) ?_
  conv => whnf
  refine cbI [] (okT e) (f17 e he) (fun h1 => ?_) (fun h1 => ?_)
  · conv => whnf
    rw [show siE e = simE e by simp [siE, h1]]
    refine ⟨[], _, f64 (okT_VT h1), ?_⟩
    conv => whnf
    exact ⟨leA_ex rfl, leH_nil⟩
  · conv => whnf
    rw [show siE e = zeroE by simp [siE, h1]]
    (refine And.intro ?_ ?_; repeat' first | exact leL_nil | exact leH_nil | exact leA_any | exact leA_refl rfl | exact leA_nil rfl | refine leA_agg ?_ | refine leA_tup ?_ | exact leB_free | exact leB_dead | refine leL_cons ?_ ?_ | refine leH_cons ?_ ?_ | refine leB_cells ?_ | fail)
end Go.Proofs.Ytmcdnbmamoggoaa
