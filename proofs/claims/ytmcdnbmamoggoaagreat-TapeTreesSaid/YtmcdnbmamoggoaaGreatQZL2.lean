/-
  TapeTrees: tape.Expr answers the tree of the reference, or its error: for every tape, every number and at most 100 names.
-/
import Derived.Test.YtmcdnbmamoggoaaGreatQOa
import Derived.Test.YtmcdnbmamoggoaaGreatQZ9
set_option linter.unusedVariables false
set_option linter.unusedSimpArgs false
namespace Go.Proofs.YtmcdnbmamoggoaaGreat
open Go Go.Sx Go.ChangeShapes Go.WideShapes Go.ChangeAt Go.WideMaps Go.WideElems Go.RowKit
set_option maxRecDepth 100000
theorem givenT {f : Func} {s : ChangeSpec} {F : Nat} (hp : f.params = #[29, 3, 23]) (hv : s.vars = []) (hr : f.resultTypes = #[4])
    (hs : ∀ (H : Type) (a b c : DataW H), (s.fn H [a, b, c]).results = [.lit (.bool true)] ∧ (s.fn H [a, b, c]).args = [a, b, c] ∧ (s.fn H [a, b, c]).vars = [])
    (hF : ∀ (t : Tp) (i : Int) (ns : List Bytes), t.ops.length < 9223372036854775808 → t.outs.length < 9223372036854775808 → (∀ x ∈ ns, x.length < 9223372036854775808) → ns.length < 9223372036854775808 → Fn F [] [.agg (tpC t), .int .i64 i, .sl .str ns] (.bool true) [])
    (H : Type) (enc : TypeId × Value → H) (W : World) (base : Nat) (args : Array Value) (ds gs : List (DataW H)) (before : List MemPlace)
    (hval : ∀ (j : Nat) t v, f.params[j]? = some t → args[j]? = some v → Value.okWide Tryz.prog W .any base t v)
    (hW : DataW.Whole enc Tryz.prog f.params.toList s.vars false W args.toList ds gs before) :
    Calls Tryz.prog F args W fun e W' => ∃ v, e = .returned v ∧ s.post enc Tryz.prog f false true false false W args v W' := by
  have hW' := hW
  obtain ⟨p, q, hA0, hV, _, _, _⟩ := hW
  rw [hv] at hV
  obtain ⟨rfl, _⟩ := trodVars_none hV
  have hA : DataW.TrodAll enc Tryz.prog W 0 (fun _ => true) true f.params.toList args.toList ds p := hA0
  rw [hp] at hA hval
  obtain ⟨v0, vs0, d0, ds0, p0, q0, hargs, rfl, rfl, h0, r0⟩ := trodAll_cons hA
  obtain ⟨v1, vs1, d1, ds1, p1, q1, hargs1, rfl, rfl, h1, r1⟩ := trodAll_cons r0
  obtain ⟨v2, vs2, d2, ds2, p2, q2, hargs2, rfl, rfl, h2, r2⟩ := trodAll_cons r1
  obtain ⟨hargs3, rfl, rfl⟩ := trodAll_nil r2
  subst hargs1; subst hargs2; subst hargs3
  obtain rfl : args = #[v0, v1, v2] := by cases args; simp_all
  obtain ⟨t, ht1, ht2, hRt⟩ := open_tape (hval 0 29 v0 rfl rfl) h0
  obtain ⟨n, rfl, _, _, _⟩ := open_int Tryz.underlying3 (hval 1 3 v1 rfl rfl) h1
  obtain ⟨ns, hns, hnl, hRn⟩ := open_names (hval 2 23 v2 rfl rfl) h2
  refine (run_true (hF t n ns ht1 ht2 hns hnl) (vs := [v0, .int .i64 n, v2]) ⟨hRt _ _, rfl, hRn _ _, trivial⟩).mono ?_
  rintro e' W' ⟨rfl, hq⟩
  exact ⟨_, rfl, post_quiet hW' hq hv (by rw [hp]; decide +kernel) hr (hs H d0 _ d2).1 (hs H d0 _ d2).2.1 (hs H d0 _ d2).2.2⟩
theorem tapeTrees_lifted (os : Os) (started : os.Started) (H : Type) (enc : TypeId × Value → H) :
    ReturnsInHanded {} Tryz.checked os 4 .any (Rows.tapeTreesSpec.pre6 enc Tryz.prog Tryz.f4 Rows.tapeTreesRow.domain false) (Rows.tapeTreesSpec.post enc Tryz.prog Tryz.f4 false true false false) := by
  refine returnsInHanded_of_change (C := Tryz.checked) own started (by kernel_rfl) Tryz.func4
    (ChangeSpec.witness6 (enc := enc) (C := Tryz.checked) false ⟨#[], #[.agg #[.int .i64 0, .slice none 0 0, .slice none 0 0], .int .i64 0, .slice none 0 0], []⟩ 8 (by kernel_rfl) (by kernel_rfl) (by kernel_rfl) (by kernel_rfl)) ?_
  intro W base args ds gs before hval hW _ _
  exact givenT (F := 4) Tryz.params4 rfl rfl (fun H a b c => ⟨rfl, rfl, rfl⟩) z4 H enc W base args ds gs before hval hW
theorem tapeTrees_holds : Rows.TapeTreesSaid :=
  OpenClaim.holds_of_wide 4 Tryz.f4 rfl rfl rfl rfl rfl rfl rfl ⟨rfl, rfl, rfl, rfl, rfl⟩ rfl rfl rfl rfl rfl (by kernel_rfl) Tryz.func4 (by kernel_rfl)
    (of_decide_eq_true (by kernel_rfl)) (by unfold Func.isWrapper; first | (rw [if_pos (by decide +kernel)]; kernel_rfl) | (rw [if_neg (by decide +kernel)]; exact ⟨rfl, rfl⟩))
    (fun os started H enc _ => tapeTrees_lifted os started H enc)
end Go.Proofs.YtmcdnbmamoggoaaGreat
