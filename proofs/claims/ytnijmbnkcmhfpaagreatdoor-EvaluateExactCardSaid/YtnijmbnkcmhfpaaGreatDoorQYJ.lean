/-
  EvaluateExact: what Exactly gives is the exact value, or the specified error: for every tree, all names and all ratios.
-/
import Derived.Test.YtnijmbnkcmhfpaaGreatDoorQOa
import Derived.Test.YtnijmbnkcmhfpaaGreatDoorQYf
import Derived.Test.YtnijmbnkcmhfpaaGreatDoorCards
import Derived.Test.YtnijmbnkcmhfpaaGreatDoorTie
import Derived.WalkKit
import Derived.ProofKit
import Derived.OpenShut
import Derived.Deep.DeepHandedRow
import Derived.Lib.LaidTab
set_option linter.unusedVariables false
set_option linter.unusedSimpArgs false
namespace Go.Proofs.YtnijmbnkcmhfpaaGreatDoor
open Go Go.Sx Go.ChangeShapes Go.WideShapes Go.ChangeAt Go.WideMaps Go.WideElems Go.RowKit
set_option maxRecDepth 100000
theorem ownY : ownKnob Tryz.prog.godebug = none := by kernel_rfl
theorem gTab : Tryz.prog.globalNamed "math/bits.deBruijn32tab" = some 0 := by kernel_rfl
theorem gTabType : (Tryz.prog.globals[0]?).map (·.type) = some 218 := by kernel_rfl
theorem cTab : Tryz.prog.cellsOf 218 = 32 := by kernel_rfl
theorem c5 : Tryz.prog.cellsOf 5 = 1 := by kernel_rfl
/-- What the row's list gives: the table lies in its variable. -/
theorem table {W : World} (h : laidMetH Tryz.prog Rows.evaluateExactRow.laid W) : Lib.TabIs Tryz.prog W "math/bits.deBruijn32tab" .u8 (Lib.deBruijn32tab.map (fun (x : Nat) => (x : Int))) :=
  Lib.tabIs_of_head (rest := []) gTab gTabType Tryz.underlying218 Tryz.underlying5 c5 cTab h
theorem table_JT {W : World} (h : laidMetH Tryz.prog Rows.evaluateExactRow.laid W) : JT (fun _ => False) (view W fun _ => False) W := fun j hj => by
  have hc := (table h).cell gTab j (by rw [List.length_map]; exact hj)
  have hv := (cell_at hc).2
  have he : (Lib.deBruijn32tab.map (fun (x : Nat) => (x : Int))).getD j 0 = ((Lib.deBruijn32tab.getD j 0 : Nat) : Int) := by
    simp [List.getD, hj]
  rw [he] at hv
  exact hv
theorem hgJ {i : Nat} (hi : ¬ i = CBID) : hget G0 i = .dead := by
  simp only [hget]
  rw [(beq_false _ _).2 fun e => hi e.symm]
theorem coreJ {W : World} (h : JT (fun _ => False) (view W fun _ => False) W) : Core (fun _ => False) (fun _ => none) (fun _ => none) (fun _ => False) G0 W :=
  ⟨fun _ h => h.elim, fun _ _ h => (by cases h), fun _ _ _ h _ => (by cases h), fun _ h => h.elim, fun _ _ h => (by cases h), fun _ _ h => (by cases h), fun _ _ h => (by cases h), fun i => by
    by_cases hi : i = CBID
    · subst hi; exact ⟨rfl, JT_stab, h⟩
    · rw [hgJ hi]; trivial⟩
theorem run_trueG {f : Nat} {A : List AV} (h : FnOK Tryz.prog f G0 A (.bool true) G0) {W : World} {vs : List Value} (hJ : JT (fun _ => False) (view W fun _ => False) W) (ha : Rs ⟨V0 W, fun _ => none, fun _ => none⟩ A vs) :
    Calls Tryz.prog f vs.toArray W fun e W' => e = .returned (.bool true) ∧ Quiet W W' := by
  refine (h.2 W (fun _ => False) (fun _ => none) (fun _ => none) (fun _ => False) vs (coreJ hJ) (fun i l b cs T hl => ?_) ha).mono ?_
  · by_cases hi : i = CBID
    · subst hi
      have hl : Blk.gst JT = .cells l := hl
      cases hl
    · rw [hgJ hi] at hl; cases hl
  · rintro e W' ⟨v, M', pt', ow', S', rfl, _, _, hr, hl⟩
    obtain rfl : v = .bool true := hr
    exact ⟨rfl, hl.os, hl.output, hl.size, fun b hb => hl.same b hb (fun i h => by cases h) (fun h => h)⟩
/-- What the walk gives, for every argument and every world that holds the table. -/
theorem contractE (H : Type) (enc : TypeId × Value → H) (W : World) (base : Nat) (args : Array Value) (ds gs : List (DataW H)) (before : List MemPlace)
    (hval : ∀ (j : Nat) t v, Tryz.f3.params[j]? = some t → args[j]? = some v → Value.okWide Tryz.prog W .any base t v)
    (hW : DataW.Whole enc Tryz.prog Tryz.f3.params.toList Rows.evaluateExactSpec.vars false W args.toList ds gs before) (hL : laidMetH Tryz.prog Rows.evaluateExactRow.laid W) :
    Calls Tryz.prog 3 args W fun e W' => ∃ v, e = .returned v ∧ Rows.evaluateExactSpec.post enc Tryz.prog Tryz.f3 false true false false W args v W' := by
  have hW' := hW
  obtain ⟨p, q, hA0, hV, _, _, _⟩ := hW
  obtain ⟨rfl, _⟩ := trodVars_none hV
  have hA : DataW.TrodAll enc Tryz.prog W 0 (fun _ => true) true Tryz.f3.params.toList args.toList ds p := hA0
  rw [Tryz.params3] at hA hval
  obtain ⟨v0, vs0, d0, ds0, p0, q0, hargs, rfl, rfl, h0, r0⟩ := trodAll_cons hA
  obtain ⟨v1, vs1, d1, ds1, p1, q1, hargs1, rfl, rfl, h1, r1⟩ := trodAll_cons r0
  obtain ⟨v2, vs2, d2, ds2, p2, q2, hargs2, rfl, rfl, h2, r2⟩ := trodAll_cons r1
  obtain ⟨hargs3, rfl, rfl⟩ := trodAll_nil r2
  subst hargs1; subst hargs2; subst hargs3
  obtain rfl : args = #[v0, v1, v2] := by cases args; simp_all
  obtain ⟨a, ha, hRa⟩ := open_tree (hval 0 26 v0 rfl rfl) h0
  obtain ⟨ns, _, hnl, hRn⟩ := open_names (hval 1 27 v1 rfl rfl) h1
  obtain ⟨rs, _, hrl, hRr⟩ := open_ratios (hval 2 28 v2 rfl rfl) h2
  refine (run_trueG (y3 a ns rs ha hnl hrl) (table_JT hL) (vs := [v0, v1, v2]) ⟨hRa _ _, hRn _ _, hRr _ _, trivial⟩).mono ?_
  rintro e' W' ⟨rfl, hq⟩
  exact ⟨_, rfl, post_quiet hW' hq rfl (by rw [Tryz.params3]; decide +kernel) rfl rfl rfl rfl⟩
/-- A world for the witness: the settled one, the table (block 0) holding what its initialiser lays. -/
noncomputable def laidWorld (os : Os) : World :=
  { World.holding Tryz.prog os ⟨#[], #[], []⟩ with heap := (World.holding Tryz.prog os ⟨#[], #[], []⟩).heap.modify 0 fun
      | .cells _ t frozen => .cells (Lib.deBruijn32tab.map fun (x : Nat) => Value.int .u8 x).toArray t frozen
      | o => o }
noncomputable def witE : Array Value := #[.agg #[.int .i64 0, .int .i64 0, .int .i64 0, .string ⟨#[]⟩, .int .i64 0, .slice none 0 0], .slice none 0 0, .slice none 0 0]
theorem laid_met (os : Os) : laidMet Tryz.prog Rows.evaluateExactRow.laid ((laidWorld os).forCall (fun _ _ => 0) ⟨#[], witE, []⟩).memory :=
  laidMet_of_run' 8 (by kernel_rfl) (by kernel_rfl)
theorem readsE (os : Os) {H : Type} (enc : TypeId × Value → H) : ∃ xs places, DataW.whole enc Tryz.prog ((laidWorld os).forCall (fun _ _ => 0) ⟨#[], witE, []⟩).memory Tryz.f3.params.toList Rows.evaluateExactSpec.vars false witE.toList 8 = some (xs, [], places) :=
  ⟨[.agg [.lit (.int .i64 0), .agg [.lit (.int .i64 0), .lit (.int .i64 0)], .lit (.string []), .lit (.int .i64 0), .nil], .nil, .nil], [], by kernel_rfl⟩
theorem evaluateExact_lifted (os : Os) (started : os.Started) (H : Type) (enc : TypeId × Value → H) (F : Stop.Interp) :
    ReturnsInHanded {} Tryz.checked os 3 .any ((OpenSpec.ofChange Rows.evaluateExactSpec).preRow enc Tryz.prog Tryz.f3 Rows.evaluateExactRow.domain false Rows.evaluateExactRow.laid) (((OpenSpec.ofChange Rows.evaluateExactSpec).at F).post enc Tryz.prog Tryz.f3 false true false false) := by
  obtain ⟨xs, places, hx⟩ := readsE os enc
  refine returnsInHanded_of_row (C := Tryz.checked) (s := OpenSpec.ofChange Rows.evaluateExactSpec) ownY started (by kernel_rfl) Tryz.func3
    (witness_row_at (enc := enc) (C := Tryz.checked) false (laidWorld os) witE rfl (by kernel_rfl) (by kernel_rfl) (by kernel_rfl)
      (OpenSpec.preRow_of_cond 8 hx (by kernel_rfl) (fun k hk => by cases hk) (by kernel_rfl) (laid_met os))) ?_
  intro W base args ds gs before hval hW _ _ _ hL _ _
  exact contractE H enc W base args ds gs before hval hW hL
theorem evaluateExact_said : Rows.EvaluateExactSaid :=
  OpenClaim.holds_of_cond 3 Tryz.f3 rfl rfl rfl rfl rfl rfl rfl ⟨rfl, rfl, rfl, rfl, rfl⟩ rfl rfl rfl rfl rfl (by kernel_rfl) Tryz.func3 (by kernel_rfl)
    (of_decide_eq_true (by kernel_rfl)) (by unfold Func.isWrapper; first | (rw [if_pos (by decide +kernel)]; kernel_rfl) | (rw [if_neg (by decide +kernel)]; exact ⟨rfl, rfl⟩))
    (fun os started H enc _ F => by rw [OpenClaim.pre_eq_preRow]; exact evaluateExact_lifted os started H enc F)
theorem plainE (f : FuncId) (fn : Func) (hf : Tryz.pinned.checked.prog.funcNamed "flowpipe/flowpipelaw17.EvaluateExact" = some f) (hfn : Tryz.pinned.checked.prog.funcs[f]? = some fn) :
    false = Tryz.pinned.checked.prog.looks [] ∧ ∀ (j : Nat) t, fn.params[j]? = some t → Tryz.pinned.checked.prog.wantsStandIn t = false := by
  obtain rfl : f = 3 := Option.some.inj ((show Tryz.prog.funcNamed "flowpipe/flowpipelaw17.EvaluateExact" = some 3 by kernel_rfl).symm.trans hf) |>.symm
  obtain rfl : fn = Tryz.f3 := (Option.some.inj (Tryz.func3.symm.trans hfn)).symm
  refine ⟨by kernel_rfl, fun j t ht => ?_⟩
  rw [Tryz.params3] at ht
  have hm := Array.mem_of_getElem? ht
  obtain rfl | rfl | rfl : t = 26 ∨ t = 27 ∨ t = 28 := by simpa using hm
  · exact (show Tryz.prog.wantsStandIn 26 = false by kernel_rfl)
  · exact (show Tryz.prog.wantsStandIn 27 = false by kernel_rfl)
  · exact (show Tryz.prog.wantsStandIn 28 = false by kernel_rfl)
theorem evaluateExact_holds : Rows.EvaluateExactCardSaid :=
  Claim7.holds_tied_plain_at .later [] _ _ _ _ evaluateExact_said (fun _ h => by cases h) (by kernel_rfl) (fun _ h => by cases h) evaluateExact_row_tie rfl ⟨rfl, rfl⟩ (by kernel_rfl) rfl plainE (by kernel_rfl)
end Go.Proofs.YtnijmbnkcmhfpaaGreatDoor
