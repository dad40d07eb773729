/-
  The tape: build.
-/
import Derived.Test.YtmcdnbmamoggoaaGreatQTc
import Derived.Test.YtmcdnbmamoggoaaGreatQVa
import Derived.Test.YtmcdnbmamoggoaaGreatQTd
set_option linter.unusedVariables false
set_option linter.unusedSimpArgs false
namespace Go.Proofs.YtmcdnbmamoggoaaGreat
open Go Go.Sx
set_option maxRecDepth 100000
set_option maxHeartbeats 8000000
abbrev Hlf (left : Int) : Hp := [(1000004, .cells [.int .i64 left])]
theorem leHlf {a b : Int} (e : a = b) {h h' : Hp} : leH h h' (Hlf a) (Hlf b) := leH_cons (leB_cells (leL_cons (leA_int e) leL_nil)) leH_nil
/-- The tree of a value, and how many more nodes there may be. -/
def bdE (t : Tp) (ns : List Bytes) : Nat → Int → Int → Ex × Int
  | 0, _, left => (zeroE, left - 1)
  | f + 1, i, left => if left - 1 < 0 then (zeroE, left - 1) else if i < t.ins then (varE (ns[i.toNat]?.getD []), left - 1) else
    match t.ops[(i - t.ins).toNat]? with
    | none => (zeroE, left - 1)
    | some o => if opn2 o.k = 0 then (.mk o.k o.c [] o.n [], left - 1) else if opn2 o.k = 1 then (.mk o.k o.c [] o.n [(bdE t ns f o.a (left - 1)).1], (bdE t ns f o.a (left - 1)).2)
      else (.mk o.k o.c [] o.n [(bdE t ns f o.a (left - 1)).1, (bdE t ns f o.b (bdE t ns f o.a (left - 1)).2).1], (bdE t ns f o.b (bdE t ns f o.a (left - 1)).2).2)
theorem bd_left (t : Tp) (ns : List Bytes) : ∀ (f : Nat) (i left : Int), (left ≤ 0 → (bdE t ns f i left).2 = left - 1) ∧ (0 ≤ left → -left - 1 ≤ (bdE t ns f i left).2) ∧ (bdE t ns f i left).2 ≤ left - 1
  | 0, i, left => by simp only [bdE]; exact ⟨fun _ => trivial, by omega, by omega⟩
  | f + 1, i, left => by
    simp only [bdE]
    split
    · exact ⟨fun _ => rfl, by simp only; omega, by simp only; omega⟩
    · split
      · exact ⟨fun _ => rfl, by simp only; omega, by simp only; omega⟩
      · split
        · exact ⟨fun _ => rfl, by simp only; omega, by simp only; omega⟩
        · rename_i o ho
          split
          · exact ⟨fun _ => rfl, by simp only; omega, by simp only; omega⟩
          · split
            · have h1 := bd_left t ns f o.a (left - 1)
              simp only; omega
            · have h1 := bd_left t ns f o.a (left - 1)
              have h2 := bd_left t ns f o.b (bdE t ns f o.a (left - 1)).2
              simp only; omega
theorem opsB_get : ∀ {l : List TOp} {n : Int} {j : Nat} {o : TOp}, opsB l n = true → l[j]? = some o → tB o (n + j) = true
  | [], _, j, o, _, h => by simp at h
  | x :: l, n, 0, o, hb, h => by
    simp only [opsB, Bool.and_eq_true] at hb
    simp at h; subst h
    simpa using hb.1
  | x :: l, n, j + 1, o, hb, h => by
    simp only [opsB, Bool.and_eq_true] at hb
    have := opsB_get hb.2 (by simpa using h)
    have e : n + ((j + 1 : Nat) : Int) = n + 1 + (j : Int) := by omega
    rw [e]; exact this
theorem tB_args {o : TOp} {n : Int} (h : tB o n = true) : (opn2 o.k = 0) ∨ (opn2 o.k = 1 ∧ 0 ≤ o.a ∧ o.a < n) ∨ (opn2 o.k = 2 ∧ (0 ≤ o.a ∧ o.a < n) ∧ 0 ≤ o.b ∧ o.b < n) := by
  unfold tB at h
  unfold opn2
  by_cases h1 : o.k = 1
  · simp [h1]
  · by_cases h2 : o.k = 3 ∨ o.k = 4 ∨ o.k = 5 ∨ o.k = 6
    · rw [if_neg h1, if_pos h2] at h
      simp only [inB, Bool.and_eq_true, decide_eq_true_eq] at h
      rw [if_neg h1, if_pos h2]
      exact .inr (.inr ⟨rfl, h.1, h.2.1⟩)
    · by_cases h3 : o.k = 8
      · rw [if_neg h1, if_neg h2, if_pos h3] at h
        simp only [inB, Bool.and_eq_true, decide_eq_true_eq] at h
        rw [if_neg h1, if_neg h2, if_pos (by omega)]
        exact .inr (.inl ⟨rfl, h.1⟩)
      · by_cases h4 : o.k = 7 ∨ o.k = 9 ∨ o.k = 10 ∨ o.k = 11 ∨ o.k = 12 ∨ o.k = 13
        · rw [if_neg h1, if_neg h2, if_neg h3, if_pos h4] at h
          simp only [inB, Bool.and_eq_true, decide_eq_true_eq] at h
          rw [if_neg h1, if_neg h2, if_pos (by omega)]
          exact .inr (.inl ⟨rfl, h.1⟩)
        · rw [if_neg h1, if_neg h2, if_neg h3, if_neg h4] at h; cases h
theorem tvB_spec {t : Tp} (h : tvB t = true) : (0 ≤ t.ins ∧ t.ins ≤ 8 ∧ t.ops.length ≤ 200 ∧ t.outs.length ≤ 200) ∧ opsB t.ops t.ins = true ∧ t.outs.any (badK t) = false := by
  unfold tvB at h
  simp only [Bool.and_eq_true, decide_eq_true_eq, Bool.not_eq_true'] at h
  exact ⟨h.1, h.2.1, h.2.2⟩
section
variable (t : Tp) (ns : List Bytes) (hv : tvB t = true) (hns : (ns.length : Int) = t.ins)
include hv hns
theorem f98 : ∀ (f : Nat) (i left : Int), 0 ≤ i → i < f → i < t.ins + t.ops.length → -1000 ≤ left → left ≤ 1000 →
    Fn 37 (Hlf left) [.agg (tpC t), .int .i64 i, .sl .str ns, .ptr 1000004 0] (.agg (exC (bdE t ns f i left).1)) (Hlf (bdE t ns f i left).2)
  | 0, i, left, h0, h1, _, _, _ => by omega
  | f + 1, i, left, h0, h1, h2, h3, h4 => by
    obtain ⟨⟨v1, v2, v3, v4⟩, v5, v6⟩ := tvB_spec hv
    obtain ⟨R, hR⟩ : ∃ R, bdE t ns (f + 1) i left = R := ⟨_, rfl⟩
    rw [hR]
    simp only [bdE] at hR
    by_cases c1 : left - 1 < 0
    · rw [if_pos c1] at hR
      subst hR
      refine fnT hT2 hmx Tryz.func37 rfl rfl (ex := []) ?_
      conv => whnf
      refine brI (fun h => ?_) (fun h => ?_)
      · conv => whnf
        exact ⟨leA_agg (leL_cons (leA_refl rfl) (leL_cons (leA_refl rfl) (leL_cons (leA_refl rfl) (leL_cons (leA_refl rfl) (leL_cons (leA_refl rfl) (leL_cons (leA_nil rfl) leL_nil)))))), leHlf (wI (by omega))⟩
      · have h : decide (IntKind.i64.wrap (left - 1) < 0) = false := h
        rw [wI (by omega)] at h
        simp only [decide_eq_false_iff_not] at h
        omega
    rw [if_neg c1] at hR
    by_cases c2 : i < t.ins
    · rw [if_pos c2] at hR
      subst hR
      refine fnT hT2 hmx Tryz.func37 rfl rfl (ex := []) ?_
      conv => whnf
      refine brI (fun h => ?_) (fun h => ?_)
      · have h : decide (IntKind.i64.wrap (left - 1) < 0) = true := h
        rw [wI (by omega)] at h
        simp only [decide_eq_true_eq] at h
        omega
      conv => whnf
      refine brI (fun h => ?_) (fun h => absurd c2 (by simpa using h))
      conv => whnf
      refine ⟨⟨by omega, by omega⟩, fun (x : Bytes) hx => ?_⟩
      rw [hx]
      conv => whnf
      exact ⟨leA_agg (leL_cons (leA_refl rfl) (leL_cons (leA_refl rfl) (leL_cons (leA_refl rfl) (leL_cons (leA_refl rfl) (leL_cons (leA_refl rfl) (leL_cons (leA_nil rfl) leL_nil)))))), leHlf (wI (by omega))⟩
    rw [if_neg c2] at hR
    have hj : (i - t.ins).toNat < t.ops.length := by omega
    obtain ⟨o, ho⟩ : ∃ o, t.ops[(i - t.ins).toNat]? = some o := ⟨_, List.getElem?_eq_getElem hj⟩
    rw [ho] at hR
    simp only at hR
    have htB := opsB_get v5 ho
    have hij : t.ins + ((i - t.ins).toNat : Int) = i := by omega
    rw [hij] at htB
    have h129 := f129 o.k
    rcases tB_args htB with c3 | ⟨c3, a1, a2⟩ | ⟨c3, ⟨a1, a2⟩, b1, b2⟩
    · rw [if_pos c3] at hR
      subst hR
      rw [c3] at h129
      refine fnT hT2 hmx Tryz.func37 rfl rfl (ex := []) ?_
      conv => whnf
      refine brI (fun h => ?_) (fun h => ?_)
      · have h : decide (IntKind.i64.wrap (left - 1) < 0) = true := h
        rw [wI (by omega)] at h
        simp only [decide_eq_true_eq] at h
        omega
      conv => whnf
      refine brI (fun h => absurd (show i < t.ins by simpa using h) c2) (fun _ => ?_)
      conv => whnf
      rw [wI (x := i - t.ins) (by omega)]
      refine ⟨⟨by omega, by omega⟩, fun (x : TOp) hx => ?_⟩
      rw [ho] at hx
      cases hx
      conv => whnf
      refine ⟨[], _, h129, ?_⟩
      conv => whnf
      refine ⟨⟨by omega, by omega, by simp⟩, ?_⟩
      conv => whnf
      (refine ⟨by kernel_rfl, by kernel_rfl, ?_⟩; (conv => whnf))
      refine ⟨Unit, fun _ => True, fun _ => [(57, .int .i64 0)], fun _ => [], fun _ => 0, (), trivial, ?_, fun _ _ => ?_⟩
      · ((conv => whnf); refine And.intro ?_ ?_; repeat' first | refine leL_cons ?_ ?_ | exact leA_any | exact leA_refl rfl | exact leL_nil | refine leH_cons ?_ ?_ | exact leH_nil | exact leB_free | exact leB_dead | refine leB_cells ?_ | exact leB_map rfl | exact leB_gst rfl | exact leA_nil rfl | refine leA_agg ?_ | refine leA_tup ?_ | fail)
      (refine ⟨by kernel_rfl, ?_⟩; (conv => whnf))
      exact ⟨leA_agg (leL_cons (leA_refl rfl) (leL_cons (leA_refl rfl) (leL_cons (leA_refl rfl) (leL_cons (leA_refl rfl) (leL_cons (leA_refl rfl) (leL_cons (leA_nil rfl) leL_nil)))))), leHlf (wI (by omega))⟩
    · rw [if_neg (by omega), if_pos c3] at hR
      have hA := f98 f o.a (left - 1) a1 (by omega) (by omega) (by omega) (by omega)
      obtain ⟨A, hA1⟩ : ∃ A, bdE t ns f o.a (left - 1) = A := ⟨_, rfl⟩
      rw [hA1] at hA hR
      obtain ⟨x1, l1⟩ := A
      simp only at hR hA
      rw [← wI (x := left - 1) (by omega)] at hA
      subst hR
      rw [c3] at h129
      refine fnT hT2 hmx Tryz.func37 rfl rfl (ex := []) ?_
      conv => whnf
      refine brI (fun h => ?_) (fun h => ?_)
      · have h : decide (IntKind.i64.wrap (left - 1) < 0) = true := h
        rw [wI (by omega)] at h
        simp only [decide_eq_true_eq] at h
        omega
      conv => whnf
      refine brI (fun h => absurd (show i < t.ins by simpa using h) c2) (fun _ => ?_)
      conv => whnf
      rw [wI (x := i - t.ins) (by omega)]
      refine ⟨⟨by omega, by omega⟩, fun (x : TOp) hx => ?_⟩
      rw [ho] at hx
      cases hx
      conv => whnf
      refine ⟨[], _, h129, ?_⟩
      conv => whnf
      refine ⟨⟨by omega, by omega, by simp⟩, ?_⟩
      conv => whnf
      (refine ⟨by kernel_rfl, by kernel_rfl, ?_⟩; (conv => whnf))
      refine ⟨Nat, fun x => x ≤ 1, fun x => [(57, .int .i64 x)], fun x => match x with
        | 0 => [(10, .cells [.int .i64 o.k, .int .i64 o.c.n, .int .i64 o.c.d, .str [], .int .i64 o.n, .own 69]), (69, .buf 40 .ex []), (1000004, .cells [.int .i64 (IntKind.i64.wrap (left - 1))])]
        | _ => [(10, .cells [.int .i64 o.k, .int .i64 o.c.n, .int .i64 o.c.d, .str [], .int .i64 o.n, .own 69]), (69, .buf 40 .ex [x1]), (1000004, .cells [.int .i64 l1])], fun x => 1 - x, 0, by omega, ?_, fun x hx => ?_⟩
      · ((conv => whnf); refine And.intro ?_ ?_; repeat' first | refine leL_cons ?_ ?_ | exact leA_any | exact leA_refl rfl | exact leL_nil | refine leH_cons ?_ ?_ | exact leH_nil | exact leB_free | exact leB_dead | refine leB_cells ?_ | exact leB_map rfl | exact leB_buf rfl | exact leB_gst rfl | exact leA_nil rfl | refine leA_agg ?_ | refine leA_tup ?_ | fail)
        all_goals first | exact trivial | exact leB_new rfl rfl
      rcases (show x = 0 ∨ x = 1 by omega) with rfl | rfl
      · (refine ⟨by kernel_rfl, ?_⟩; (conv => whnf))
        refine ⟨⟨by omega, by simp⟩, fun y hy => ?_⟩
        cases hy
        conv => whnf
        refine ⟨[.cells [.int .i64 l1]], _, hA, ?_⟩
        conv => whnf
        refine ⟨by simp, ?_⟩
        conv => whnf
        (refine ⟨by kernel_rfl, by kernel_rfl, ?_⟩; (conv => whnf))
        refine ⟨1, by omega, by decide, ?_⟩
        ((conv => whnf); refine And.intro ?_ ?_; repeat' first | refine leL_cons ?_ ?_ | exact leA_any | exact leA_refl rfl | exact leL_nil | refine leH_cons ?_ ?_ | exact leH_nil | exact leB_free | exact leB_dead | refine leB_cells ?_ | exact leB_map rfl | exact leB_buf rfl | exact leB_gst rfl | exact leA_nil rfl | refine leA_agg ?_ | refine leA_tup ?_ | fail)
        exact leB_buf (by show [_] = [x1]; rw [Ex.eta2])
      · (refine ⟨by kernel_rfl, ?_⟩; (conv => whnf))
        exact ⟨leA_refl rfl, leHlf rfl⟩
    · rw [if_neg (by omega), if_neg (by omega)] at hR
      have hA := f98 f o.a (left - 1) a1 (by omega) (by omega) (by omega) (by omega)
      have hlA := bd_left t ns f o.a (left - 1)
      obtain ⟨A, hA1⟩ : ∃ A, bdE t ns f o.a (left - 1) = A := ⟨_, rfl⟩
      rw [hA1] at hA hR hlA
      obtain ⟨x1, l1⟩ := A
      simp only at hR hA hlA
      have hB := f98 f o.b l1 b1 (by omega) (by omega) (by omega) (by omega)
      obtain ⟨B, hB1⟩ : ∃ B, bdE t ns f o.b l1 = B := ⟨_, rfl⟩
      rw [hB1] at hB hR
      obtain ⟨x2, l2⟩ := B
      simp only at hR hB
      rw [← wI (x := left - 1) (by omega)] at hA
      subst hR
      rw [c3] at h129
      refine fnT hT2 hmx Tryz.func37 rfl rfl (ex := []) ?_
      conv => whnf
      refine brI (fun h => ?_) (fun h => ?_)
      · have h : decide (IntKind.i64.wrap (left - 1) < 0) = true := h
        rw [wI (by omega)] at h
        simp only [decide_eq_true_eq] at h
        omega
      conv => whnf
      refine brI (fun h => absurd (show i < t.ins by simpa using h) c2) (fun _ => ?_)
      conv => whnf
      rw [wI (x := i - t.ins) (by omega)]
      refine ⟨⟨by omega, by omega⟩, fun (x : TOp) hx => ?_⟩
      rw [ho] at hx
      cases hx
      conv => whnf
      refine ⟨[], _, h129, ?_⟩
      conv => whnf
      refine ⟨⟨by omega, by omega, by simp⟩, ?_⟩
      conv => whnf
      (refine ⟨by kernel_rfl, by kernel_rfl, ?_⟩; (conv => whnf))
      refine ⟨Nat, fun x => x ≤ 2, fun x => [(57, .int .i64 x)], fun x => match x with
        | 0 => [(10, .cells [.int .i64 o.k, .int .i64 o.c.n, .int .i64 o.c.d, .str [], .int .i64 o.n, .own 69]), (69, .buf 40 .ex []), (1000004, .cells [.int .i64 (IntKind.i64.wrap (left - 1))])]
        | 1 => [(10, .cells [.int .i64 o.k, .int .i64 o.c.n, .int .i64 o.c.d, .str [], .int .i64 o.n, .own 69]), (69, .buf 40 .ex [x1]), (1000004, .cells [.int .i64 l1])]
        | _ => [(10, .cells [.int .i64 o.k, .int .i64 o.c.n, .int .i64 o.c.d, .str [], .int .i64 o.n, .own 69]), (69, .buf 40 .ex [x1, x2]), (1000004, .cells [.int .i64 l2])], fun x => 2 - x, 0, by omega, ?_, fun x hx => ?_⟩
      · ((conv => whnf); refine And.intro ?_ ?_; repeat' first | refine leL_cons ?_ ?_ | exact leA_any | exact leA_refl rfl | exact leL_nil | refine leH_cons ?_ ?_ | exact leH_nil | exact leB_free | exact leB_dead | refine leB_cells ?_ | exact leB_map rfl | exact leB_buf rfl | exact leB_gst rfl | exact leA_nil rfl | refine leA_agg ?_ | refine leA_tup ?_ | fail)
        all_goals first | exact trivial | exact leB_new rfl rfl
      rcases (show x = 0 ∨ x = 1 ∨ x = 2 by omega) with rfl | rfl | rfl
      · (refine ⟨by kernel_rfl, ?_⟩; (conv => whnf))
        refine ⟨⟨by omega, by simp⟩, fun y hy => ?_⟩
        cases hy
        conv => whnf
        refine ⟨[.cells [.int .i64 l1]], _, hA, ?_⟩
        conv => whnf
        refine ⟨by simp, ?_⟩
        conv => whnf
        (refine ⟨by kernel_rfl, by kernel_rfl, ?_⟩; (conv => whnf))
        refine ⟨1, by omega, by decide, ?_⟩
        ((conv => whnf); refine And.intro ?_ ?_; repeat' first | refine leL_cons ?_ ?_ | exact leA_any | exact leA_refl rfl | exact leL_nil | refine leH_cons ?_ ?_ | exact leH_nil | exact leB_free | exact leB_dead | refine leB_cells ?_ | exact leB_map rfl | exact leB_buf rfl | exact leB_gst rfl | exact leA_nil rfl | refine leA_agg ?_ | refine leA_tup ?_ | fail)
        exact leB_buf (by show [_] = [x1]; rw [Ex.eta2])
      · (refine ⟨by kernel_rfl, ?_⟩; (conv => whnf))
        refine ⟨⟨by omega, by simp⟩, fun y hy => ?_⟩
        cases hy
        conv => whnf
        refine ⟨[.cells [.int .i64 l2]], _, hB, ?_⟩
        conv => whnf
        refine ⟨by simp, ?_⟩
        conv => whnf
        (refine ⟨by kernel_rfl, by kernel_rfl, ?_⟩; (conv => whnf))
        refine ⟨2, by omega, by decide, ?_⟩
        ((conv => whnf); refine And.intro ?_ ?_; repeat' first | refine leL_cons ?_ ?_ | exact leA_any | exact leA_refl rfl | exact leL_nil | refine leH_cons ?_ ?_ | exact leH_nil | exact leB_free | exact leB_dead | refine leB_cells ?_ | exact leB_map rfl | exact leB_buf rfl | exact leB_gst rfl | exact leA_nil rfl | refine leA_agg ?_ | refine leA_tup ?_ | fail)
        exact leB_buf (by show [x1, _] = [x1, x2]; rw [Ex.eta2])
      · (refine ⟨by kernel_rfl, ?_⟩; (conv => whnf))
        exact ⟨leA_refl rfl, leHlf rfl⟩
end
end Go.Proofs.YtmcdnbmamoggoaaGreat

/-
  The tape: Expr; trees and tapes that are equal.
-/
namespace Go.Proofs.YtmcdnbmamoggoaaGreat
open Go Go.Sx
set_option maxRecDepth 100000
set_option maxHeartbeats 8000000
abbrev trV (p : Ex × Int) : AV := .tup [.agg (exC p.1), .int .i64 p.2]
/-- The tree of a value, or the error. -/
def trE (t : Tp) (i : Int) (ns : List Bytes) : Ex × Int :=
  if tvB t = false ∨ (ns.length : Int) ≠ t.ins ∨ ns.any badN = true then (zeroE, 1) else if twB ns = true then (zeroE, 8) else if i < 0 ∨ t.ins + t.ops.length ≤ i then (zeroE, 2)
  else if (bdE t ns (i.toNat + 1) i 200).2 < 0 ∨ okT (bdE t ns (i.toNat + 1) i 200).1 = false then (zeroE, 5) else ((bdE t ns (i.toNat + 1) i 200).1, 0)
theorem Sm_zero : Sm zeroE := by simp [zeroE, Sm, SmL]
theorem Sm_bd (t : Tp) (ns : List Bytes) (hns : ∀ x ∈ ns, x.length < 9223372036854775808) : ∀ (f : Nat) (i left : Int), Sm (bdE t ns f i left).1
  | 0, i, left => Sm_zero
  | f + 1, i, left => by
    simp only [bdE]
    split
    · exact Sm_zero
    · split
      · cases h : ns[i.toNat]? with
        | none => simp [varE, Sm, SmL]
        | some x => simp only [Option.getD_some, varE, Sm]; exact ⟨hns x (List.mem_of_getElem? h), by simp, trivial⟩
      · split
        · exact Sm_zero
        · split
          · simp [Sm, SmL]
          · split
            · simp only [Sm, SmL]; exact ⟨by simp, by simp, Sm_bd t ns hns f _ _, trivial⟩
            · simp only [Sm, SmL]; exact ⟨by simp, by simp, Sm_bd t ns hns f _ _, Sm_bd t ns hns f _ _, trivial⟩
theorem leZ {h h' : Hp} {e e' : Int} (he : e = e') : leA h h' (.tup [.agg [.int .i64 0, .int .i64 0, .int .i64 0, .str [], .int .i64 0, .nilsl], .int .i64 e]) (trV (zeroE, e')) :=
  leA_tup (leL_cons (leA_agg (leL_cons (leA_refl rfl) (leL_cons (leA_refl rfl) (leL_cons (leA_refl rfl) (leL_cons (leA_refl rfl) (leL_cons (leA_refl rfl) (leL_cons (leA_nil rfl) leL_nil))))))) (leL_cons (leA_int he) leL_nil))
theorem f48 (t : Tp) (i : Int) (ns : List Bytes) (h1 : t.ops.length < 9223372036854775808) (h2 : t.outs.length < 9223372036854775808) (hns : ∀ x ∈ ns, x.length < 9223372036854775808) (hnl : ns.length < 9223372036854775808) :
    Fn 10 [] [.agg (tpC t), .int .i64 i, .sl .str ns] (trV (trE t i ns)) [] := by
  obtain ⟨A, hA⟩ : ∃ A, trE t i ns = A := ⟨_, rfl⟩
  rw [hA]
  unfold trE at hA
  have h41 := f41 t h1 h2
  refine fnT hT2 hmx Tryz.func10 rfl rfl (ex := []) ?_
  conv => whnf
  by_cases hv : tvB t = true
  rotate_left
  · have hv : tvB t = false := by simpa using hv
    rw [if_pos (.inl hv)] at hA
    subst hA
    rw [hv] at h41
    refine ⟨[], _, h41, ?_⟩
    conv => whnf
    exact ⟨leZ rfl, leH_nil⟩
  rw [hv] at h41
  refine ⟨[], _, h41, ?_⟩
  conv => whnf
  refine brI (fun h => ?_) (fun h => ?_)
  · have h : (ns.length : Int) ≠ t.ins := by
      have h : ((ns.length : Int) != t.ins) = true := h
      simpa using h
    rw [if_pos (.inr (.inl h))] at hA
    subst hA
    conv => whnf
    exact ⟨leZ rfl, leH_nil⟩
  have c1 : (ns.length : Int) = t.ins := by
    have h : ((ns.length : Int) != t.ins) = false := h
    simpa using h
  conv => whnf
  refine cbI [] (ns.any badN) (f32d ns hns hnl) (fun c2 => ?_) (fun c2 => ?_)
  · rw [if_pos (.inr (.inr c2))] at hA
    subst hA
    conv => whnf
    exact ⟨leZ rfl, leH_nil⟩
  rw [if_neg (by rw [hv, c2]; simp [c1])] at hA
  conv => whnf
  refine cbI [] (twB ns) (f90 ns hnl) (fun c3 => ?_) (fun c3 => ?_)
  · rw [if_pos c3] at hA
    subst hA
    conv => whnf
    exact ⟨leZ rfl, leH_nil⟩
  rw [if_neg (by rw [c3]; simp)] at hA
  obtain ⟨⟨v1, v2, v3, v4⟩, v5, v6⟩ := tvB_spec hv
  conv => whnf
  refine brI (fun h => ?_) (fun h => ?_)
  · have h : i < 0 := by simpa using h
    rw [if_pos (.inl h)] at hA
    subst hA
    conv => whnf
    exact ⟨leZ rfl, leH_nil⟩
  have c4 : ¬ i < 0 := by simpa using h
  conv => whnf
  refine brI (fun h => ?_) (fun h => ?_)
  · have h : decide (i ≥ IntKind.i64.wrap (t.ins + (t.ops.length : Int))) = true := h
    rw [wI (by omega)] at h
    simp only [decide_eq_true_eq] at h
    rw [if_pos (.inr h)] at hA
    subst hA
    conv => whnf
    exact ⟨leZ rfl, leH_nil⟩
  have c5 : ¬ t.ins + (t.ops.length : Int) ≤ i := by
    have h : decide (i ≥ IntKind.i64.wrap (t.ins + (t.ops.length : Int))) = false := h
    rw [wI (by omega)] at h
    simpa using h
  rw [if_neg (by omega)] at hA
  have h98 := (f98 t ns hv c1 (i.toNat + 1) i 200 (by omega) (by omega) (by omega) (by omega) (by omega)).sw [(8, 1000004)] rfl
  have hsm := Sm_bd t ns hns (i.toNat + 1) i 200
  obtain ⟨B, hB⟩ : ∃ B, bdE t ns (i.toNat + 1) i 200 = B := ⟨_, rfl⟩
  rw [hB] at hA h98 hsm
  obtain ⟨e, left⟩ := B
  simp only at hA hsm
  have h17 := f17 e hsm
  conv => whnf
  refine ⟨[.cells [.int .i64 left]], .agg (exC e), h98, ?_⟩
  conv => whnf
  refine brI (fun h => ?_) (fun h => ?_)
  · have h : left < 0 := by simpa using h
    rw [if_pos (.inl h)] at hA
    subst hA
    conv => whnf
    exact ⟨leZ rfl, leH_nil⟩
  have c6 : ¬ left < 0 := by simpa using h
  conv => whnf
  cases hok : okT e with
  | false =>
    rw [hok] at h17
    rw [if_pos (.inr hok)] at hA
    subst hA
    refine ⟨[], .bool false, ?_, ?_⟩
    · cases e; exact h17
    conv => whnf
    exact ⟨leZ rfl, leH_nil⟩
  | true =>
    rw [hok] at h17
    rw [if_neg (by rw [hok]; simp; omega)] at hA
    subst hA
    refine ⟨[], .bool true, ?_, ?_⟩
    · cases e; exact h17
    conv => whnf
    exact ⟨leA_refl rfl, leH_nil⟩
/-! ### Equal trees -/
theorem f50r (t : Tp) (h1 : t.ops.length < 9223372036854775808) (h2 : t.outs.length < 9223372036854775808) : Fn 9 [] [.agg (tpC t), .agg (tpC t)] (.bool true) [] := by
  have h79 := f79 t.ops t.ops h1
  have h80 := f80 t.outs t.outs h2
  rw [decide_eq_true rfl] at h79 h80
  refine fnT hT2 hmx Tryz.func9 rfl rfl (ex := []) ?_
  conv => whnf
  refine brI (fun _ => ?_) (fun h => absurd h (by simp))
  conv => whnf
  refine ⟨[], _, h79, ?_⟩
  conv => whnf
  refine ⟨[], _, h80, ?_⟩
  conv => whnf
  exact ⟨leA_refl rfl, leH_nil⟩
theorem f45 (l : List Ex) : Fn 6 [] [.sl .ex l] (.bool (decide (8 < l.length) && decide (l.length ≤ 200))) [] := by
  refine fnT hT2 hmx Tryz.func6 rfl rfl (ex := []) ?_
  conv => whnf
  refine brI (fun h => ?_) (fun h => ?_)
  · conv => whnf
    refine ⟨leA_bool ?_, leH_nil⟩
    simp only [decide_eq_true_eq] at h
    rw [Bool.eq_iff_iff]; simp; omega
  · conv => whnf
    refine ⟨leA_bool ?_, leH_nil⟩
    simp only [decide_eq_false_iff_not] at h
    rw [Bool.eq_iff_iff]; simp; omega
end Go.Proofs.YtmcdnbmamoggoaaGreat

/-
  The tape of expressions has their trees: plain functions.
-/
namespace Go.Proofs.YtmcdnbmamoggoaaGreat
open Go Go.Sx
theorem keyO (a b : TOp) : keyB .op a b = decide (a = b) := by
  rw [Bool.eq_iff_iff, decide_eq_true_eq]
  exact beq_iff_eq (α := TOp)
theorem mgetO (x y : TOp) (r z : Int) : ∀ es : List (TOp × Int), mget .op x z (mput .op y r es) = if x = y then r else mget .op x z es
  | [] => by
    by_cases h : x = y
    · subst h; simp [mput, mget, keyO]
    · simp [mput, mget, keyO, h]
  | (w, v) :: l => by
    have ih := mgetO x y r z l
    by_cases h : y = w
    · subst h
      by_cases h2 : x = y
      · subst h2; simp [mput, mget, keyO]
      · simp [mput, mget, keyO, h2]
    · by_cases h2 : x = w
      · subst h2
        have h' : ¬ x = y := fun e => h e.symm
        simp [mput, mget, keyO, h, h']
      · simp [mput, mget, keyO, h, h2]; simpa using ih
theorem mhasO (x y : TOp) (r : Int) : ∀ es : List (TOp × Int), mhas .op x (mput .op y r es) = (decide (x = y) || mhas .op x es)
  | [] => by
    by_cases h : x = y
    · subst h; simp [mput, mhas, keyO]
    · simp [mput, mhas, keyO, h]
  | (w, v) :: l => by
    have ih := mhasO x y r l
    by_cases h : y = w
    · subst h
      by_cases h2 : x = y
      · subst h2; simp [mput, mhas, keyO]
      · simp [mput, mhas, keyO, h2]
    · by_cases h2 : x = w
      · subst h2; simp [mput, mhas, keyO, h]
      · simp [mput, mhas, keyO, h, h2]; simpa using ih
/-- What holds of the operations and their numbers. -/
def BInv (ins : Int) (st : BS) : Prop := opsB st.1 ins = true ∧ (∀ x, mhas .op x st.2 = true → ∃ j : Nat, st.1[j]? = some x ∧ mget .op x 0 st.2 = ins + j) ∧ ∀ x ∈ st.1, mhas .op x st.2 = true
theorem opsB_app : ∀ (l : List TOp) (n : Int) (x : TOp), opsB (l ++ [x]) n = (opsB l n && tB x (n + l.length))
  | [], n, x => by simp [opsB]
  | o :: l, n, x => by
    simp only [List.cons_append, opsB, opsB_app l, List.length_cons, Bool.and_assoc]
    have e : n + 1 + (l.length : Int) = n + ((l.length + 1 : Nat) : Int) := by omega
    rw [e]
theorem put_law {ins : Int} {x : TOp} {st : BS} (h : BInv ins st) (hx : tB x (ins + st.1.length) = true) :
    BInv ins (putS ins x st).2 ∧ (∃ tl, (putS ins x st).2.1 = st.1 ++ tl) ∧ ∃ j : Nat, (putS ins x st).1 = ins + j ∧ (putS ins x st).2.1[j]? = some x := by
  obtain ⟨h1, h2, h3⟩ := h
  unfold putS
  cases hh : mhas .op x st.2 with
  | true =>
    obtain ⟨j, h4, h5⟩ := h2 x hh
    simp only [if_true]
    exact ⟨⟨h1, h2, h3⟩, ⟨[], by simp⟩, j, h5, h4⟩
  | false =>
    simp only [Bool.false_eq_true, if_false]
    refine ⟨⟨?_, fun y hy => ?_, fun y hy => ?_⟩, ⟨[x], rfl⟩, st.1.length, rfl, by simp⟩
    · simp only; rw [opsB_app, h1, hx]; rfl
    · simp only at hy ⊢
      rw [mhasO] at hy
      rw [mgetO]
      by_cases e : y = x
      · subst e
        exact ⟨st.1.length, by simp, by simp⟩
      · have hy : mhas .op y st.2 = true := by simpa [e] using hy
        obtain ⟨j, h4, h5⟩ := h2 y hy
        refine ⟨j, ?_, by simp [e, h5]⟩
        rw [List.getElem?_append_left (List.getElem?_eq_some_iff.1 h4).1]; exact h4
    · simp only at hy ⊢
      rw [mhasO]
      rcases List.mem_append.1 hy with hy | hy
      · rw [h3 y hy, Bool.or_true]
      · have : y = x := by simpa using hy
        simp [this]
/-- The value of this number is this tree. -/
inductive Dn (ins : Nat) (ns : List Bytes) (ops : List TOp) : Int → Ex → Prop
  | var (i : Nat) (s : Bytes) : ns[i]? = some s → i < ins → Dn ins ns ops i (varE s)
  | num (j : Nat) (r : Rt) : ops[j]? = some ⟨1, 0, 0, 0, r⟩ → Dn ins ns ops ((ins : Int) + j) (ratE r)
  | one (j : Nat) (k n A : Int) (a : Ex) : ops[j]? = some ⟨k, A, 0, n, ⟨0, 0⟩⟩ → opn2 k = 1 → 0 ≤ A → A < (ins : Int) + j → Dn ins ns ops A a → Dn ins ns ops ((ins : Int) + j) (opE k n [a])
  | two (j : Nat) (k A B : Int) (a b : Ex) : ops[j]? = some ⟨k, A, B, 0, ⟨0, 0⟩⟩ → opn2 k = 2 → 0 ≤ A → A < (ins : Int) + j → 0 ≤ B → B < (ins : Int) + j → Dn ins ns ops A a → Dn ins ns ops B b → Dn ins ns ops ((ins : Int) + j) (opE k 0 [a, b])
theorem Dn.mono {ins : Nat} {ns : List Bytes} {ops : List TOp} {i : Int} {e : Ex} (h : Dn ins ns ops i e) (tl : List TOp) : Dn ins ns (ops ++ tl) i e := by
  have hg : ∀ {j : Nat} {o : TOp}, ops[j]? = some o → (ops ++ tl)[j]? = some o := fun {j o} h => by
    rw [List.getElem?_append_left (List.getElem?_eq_some_iff.1 h).1]; exact h
  induction h with
  | var i s h1 h2 => exact .var i s h1 h2
  | num j r h1 => exact .num j r (hg h1)
  | one j k n A a h1 h2 h3 h4 _ ih => exact .one j k n A a (hg h1) h2 h3 h4 ih
  | two j k A B a b h1 h2 h3 h4 h5 h6 _ _ ih1 ih2 => exact .two j k A B a b (hg h1) h2 h3 h4 h5 h6 ih1 ih2
theorem sizE_pos (e : Ex) : 1 ≤ sizE e := by cases e; simp [sizE]
theorem Dn.bd {ins : Nat} {ns : List Bytes} {ops : List TOp} {outs : List Int} {i : Int} {e : Ex} (h : Dn ins ns ops i e) : ∀ (f : Nat) (left : Int), i < f → (sizE e : Int) ≤ left → bdE ⟨ins, ops, outs⟩ ns f i left = (e, left - sizE e) := by
  induction h with
  | var i s h1 h2 =>
    intro f left hf hl
    have hs : sizE (varE s) = 1 := by simp [varE, sizE, sizL]
    rw [hs] at hl ⊢
    obtain ⟨f, rfl⟩ : ∃ g, f = g + 1 := ⟨f - 1, by omega⟩
    have e1 : ((i : Nat) : Int).toNat = i := by omega
    simp only [bdE]
    rw [if_neg (by omega), if_pos (by omega), e1, h1]
    simp only [Option.getD_some, Prod.mk.injEq, true_and]; omega
  | num j r h1 =>
    intro f left hf hl
    have hs : sizE (ratE r) = 1 := by simp [ratE, sizE, sizL]
    rw [hs] at hl ⊢
    obtain ⟨f, rfl⟩ : ∃ g, f = g + 1 := ⟨f - 1, by omega⟩
    have e1 : ((ins : Int) + (j : Int) - (ins : Int)).toNat = j := by omega
    simp only [bdE]
    rw [if_neg (by omega), if_neg (by omega), e1, h1]
    simp only
    rw [if_pos (by rfl)]
    simp only [ratE, Prod.mk.injEq, true_and]; omega
  | one j k n A a h1 h2 h3 h4 _ ih =>
    intro f left hf hl
    have hs : sizE (opE k n [a]) = sizE a + 1 := by simp [opE, sizE, sizL]
    rw [hs] at hl ⊢
    obtain ⟨f, rfl⟩ : ∃ g, f = g + 1 := ⟨f - 1, by omega⟩
    have e1 : ((ins : Int) + (j : Int) - (ins : Int)).toNat = j := by omega
    have hp := sizE_pos a
    have iha := ih f (left - 1) (by omega) (by omega)
    simp only [bdE]
    rw [if_neg (by omega), if_neg (by omega), e1, h1]
    simp only
    rw [if_neg (by rw [h2]; omega), if_pos h2, iha]
    simp only [opE, Prod.mk.injEq, true_and]; omega
  | two j k A B a b h1 h2 h3 h4 h5 h6 _ _ ih1 ih2 =>
    intro f left hf hl
    have hs : sizE (opE k 0 [a, b]) = sizE a + sizE b + 1 := by simp [opE, sizE, sizL]
    rw [hs] at hl ⊢
    obtain ⟨f, rfl⟩ : ∃ g, f = g + 1 := ⟨f - 1, by omega⟩
    have e1 : ((ins : Int) + (j : Int) - (ins : Int)).toNat = j := by omega
    have hp := sizE_pos a
    have hp2 := sizE_pos b
    have iha := ih1 f (left - 1) (by omega) (by omega)
    have ihb := ih2 f (left - 1 - sizE a) (by omega) (by omega)
    simp only [bdE]
    rw [if_neg (by omega), if_neg (by omega), e1, h1]
    simp only
    rw [if_neg (by rw [h2]; omega), if_neg (by rw [h2]; omega), iha]
    simp only
    rw [ihb]
    simp only [opE, Prod.mk.injEq, true_and]; omega
theorem ixP_of {ns : List Bytes} {s : Bytes} (h : s ∈ ns) : ∀ (i : Nat), ∃ j : Nat, ixP (eqS s) ns i = ((i + j : Nat) : Int) ∧ ns[j]? = some s := by
  induction ns with
  | nil => cases h
  | cons n ns ih =>
    intro i
    by_cases e : s = n
    · exact ⟨0, by simp [ixP, eqS, e], by simp [e]⟩
    · have h : s ∈ ns := by
        rcases List.mem_cons.1 h with h | h
        · exact absurd h e
        · exact h
      obtain ⟨j, h1, h2⟩ := ih h (i + 1)
      refine ⟨j + 1, ?_, by simpa using h2⟩
      have he : ¬ eqS s n = true := by simpa [eqS] using e
      simp only [ixP, if_neg he, h1]; congr 1; omega
theorem nd_law {ns : List Bytes} {e : Ex} (h : VT e) : (∀ y ∈ preE e, y.k = 2 → y.s ∈ ns) → ∀ {st : BS}, BInv ns.length st →
    BInv ns.length (ndE ns.length ns e st).2 ∧ (∃ tl, (ndE ns.length ns e st).2.1 = st.1 ++ tl) ∧ 0 ≤ (ndE ns.length ns e st).1 ∧ (ndE ns.length ns e st).1 < ns.length + (ndE ns.length ns e st).2.1.length ∧ Dn ns.length ns (ndE ns.length ns e st).2.1 (ndE ns.length ns e st).1 e := by
  -- an operation, laid
  have key : ∀ {st : BS} {x : TOp} {e : Ex}, BInv ns.length st → tB x (ns.length + st.1.length) = true → (∀ (j : Nat) (ops : List TOp), ops[j]? = some x → tB x (ns.length + j) = true → (∃ tl, ops = st.1 ++ tl) → Dn ns.length ns ops ((ns.length : Int) + j) e) →
      BInv ns.length (putS ns.length x st).2 ∧ (∃ tl, (putS ns.length x st).2.1 = st.1 ++ tl) ∧ 0 ≤ (putS ns.length x st).1 ∧ (putS ns.length x st).1 < ns.length + (putS ns.length x st).2.1.length ∧ Dn ns.length ns (putS ns.length x st).2.1 (putS ns.length x st).1 e := fun {st x e} hi hx hd => by
    obtain ⟨p1, p2, j, p3, p4⟩ := put_law hi hx
    have hj := (List.getElem?_eq_some_iff.1 p4).1
    refine ⟨p1, p2, by omega, by omega, ?_⟩
    rw [p3]
    exact hd j _ p4 (opsB_get p1.1 p4) p2
  induction h with
  | num r hr =>
    intro _ st hi
    have e1 : ndE ns.length ns (ratE r) st = putS ns.length ⟨1, 0, 0, 0, r⟩ st := by simp [ratE, ndE, ndL, at0, at1]
    rw [e1]
    exact key hi (by simp [tB, hr]) fun j ops h1 _ _ => .num j r h1
  | var s hs =>
    intro hv st hi
    have e1 : ndE ns.length ns (varE s) st = (ixP (eqS s) ns 0, st) := by simp [varE, ndE]
    rw [e1]
    obtain ⟨j, h1, h2⟩ := ixP_of (hv (varE s) (by simp [varE, preE, preL]) rfl) 0
    have h1 : ixP (eqS s) ns 0 = ((0 + j : Nat) : Int) := h1
    have h2 : ns[j]? = some s := h2
    have hj := (List.getElem?_eq_some_iff.1 h2).1
    simp only [Nat.zero_add] at h1
    refine ⟨hi, ⟨[], by simp⟩, by simp only [h1]; omega, by simp only [h1]; omega, ?_⟩
    simp only [h1]
    exact .var j s h2 hj
  | un k a hk ha ih =>
    intro hv st hi
    have e1 : ndE ns.length ns (opE k 0 [a]) st = putS ns.length ⟨k, (ndE ns.length ns a st).1, 0, 0, ⟨0, 0⟩⟩ (ndE ns.length ns a st).2 := by simp [opE, ndE, ndL, at0, at1, (K1_ne hk).2]
    rw [e1]
    obtain ⟨i1, ⟨tl, i2⟩, i3, i4, i5⟩ := ih (fun y hy => hv y (by simp only [opE, preE, preL, List.append_nil]; exact List.mem_cons_of_mem _ hy)) hi
    generalize ndE ns.length ns a st = A at *
    obtain ⟨A, st1⟩ := A
    simp only at i1 i2 i3 i4 i5 ⊢
    have hk1 : opn2 k = 1 := by unfold K1 at hk; rcases hk with rfl | rfl | rfl | rfl | rfl | rfl <;> rfl
    have hb := key (e := opE k 0 [a]) i1 (x := ⟨k, A, 0, 0, ⟨0, 0⟩⟩) (by
      have : inB A (ns.length + st1.1.length) = true := by simp only [inB, Bool.and_eq_true, decide_eq_true_eq]; omega
      unfold K1 at hk; rcases hk with rfl | rfl | rfl | rfl | rfl | rfl <;> simp [tB, this]) fun j ops h1 h2 h3 => by
        obtain ⟨tl, h3⟩ := h3
        rcases tB_args h2 with h4 | ⟨_, h4, h5⟩ | ⟨h4, _⟩
        · simp only at h4; omega
        · exact .one j k 0 A a h1 hk1 h4 h5 (by rw [h3]; exact i5.mono tl)
        · simp only at h4; omega
    obtain ⟨b1, ⟨tl2, b2⟩, b3, b4, b5⟩ := hb
    exact ⟨b1, ⟨tl ++ tl2, by rw [b2, i2, List.append_assoc]⟩, b3, b4, b5⟩
  | pow n a h0 h16 ha ih =>
    intro hv st hi
    have e1 : ndE ns.length ns (opE 8 n [a]) st = putS ns.length ⟨8, (ndE ns.length ns a st).1, 0, n, ⟨0, 0⟩⟩ (ndE ns.length ns a st).2 := by simp [opE, ndE, ndL, at0, at1]
    rw [e1]
    obtain ⟨i1, ⟨tl, i2⟩, i3, i4, i5⟩ := ih (fun y hy => hv y (by simp only [opE, preE, preL, List.append_nil]; exact List.mem_cons_of_mem _ hy)) hi
    generalize ndE ns.length ns a st = A at *
    obtain ⟨A, st1⟩ := A
    simp only at i1 i2 i3 i4 i5 ⊢
    have hb := key (e := opE 8 n [a]) i1 (x := ⟨8, A, 0, n, ⟨0, 0⟩⟩) (by
      have : inB A (ns.length + st1.1.length) = true := by simp only [inB, Bool.and_eq_true, decide_eq_true_eq]; omega
      simp [tB, this, h0, h16]) fun j ops h1 h2 h3 => by
        obtain ⟨tl, h3⟩ := h3
        rcases tB_args h2 with h4 | ⟨_, h4, h5⟩ | ⟨h4, _⟩
        · simp [opn2] at h4
        · exact .one j 8 n A a h1 rfl h4 h5 (by rw [h3]; exact i5.mono tl)
        · simp [opn2] at h4
    obtain ⟨b1, ⟨tl2, b2⟩, b3, b4, b5⟩ := hb
    exact ⟨b1, ⟨tl ++ tl2, by rw [b2, i2, List.append_assoc]⟩, b3, b4, b5⟩
  | bin k a b hk ha hb ih1 ih2 =>
    intro hv st hi
    have e1 : ndE ns.length ns (opE k 0 [a, b]) st = putS ns.length ⟨k, (ndE ns.length ns a st).1, (ndE ns.length ns b (ndE ns.length ns a st).2).1, 0, ⟨0, 0⟩⟩ (ndE ns.length ns b (ndE ns.length ns a st).2).2 := by simp [opE, ndE, ndL, at0, at1, (K2_ne hk).2]
    rw [e1]
    obtain ⟨i1, ⟨tl, i2⟩, i3, i4, i5⟩ := ih1 (fun y hy => hv y (by simp only [opE, preE, preL, List.append_nil]; exact List.mem_cons_of_mem _ (List.mem_append_left _ hy))) hi
    generalize ndE ns.length ns a st = A at *
    obtain ⟨A, st1⟩ := A
    simp only at i1 i2 i3 i4 i5 ⊢
    obtain ⟨j1, ⟨tl1, j2⟩, j3, j4, j5⟩ := ih2 (fun y hy => hv y (by simp only [opE, preE, preL, List.append_nil]; exact List.mem_cons_of_mem _ (List.mem_append_right _ hy))) i1
    generalize ndE ns.length ns b st1 = B at *
    obtain ⟨B, st2⟩ := B
    simp only at j1 j2 j3 j4 j5 ⊢
    have hlen : st1.1.length ≤ st2.1.length := by rw [j2]; simp
    have hk2 : opn2 k = 2 := by unfold K2 at hk; rcases hk with rfl | rfl | rfl | rfl <;> rfl
    have hbb := key (e := opE k 0 [a, b]) j1 (x := ⟨k, A, B, 0, ⟨0, 0⟩⟩) (by
      have hA : inB A (ns.length + st2.1.length) = true := by simp only [inB, Bool.and_eq_true, decide_eq_true_eq]; omega
      have hB : inB B (ns.length + st2.1.length) = true := by simp only [inB, Bool.and_eq_true, decide_eq_true_eq]; omega
      unfold K2 at hk; rcases hk with rfl | rfl | rfl | rfl <;> simp [tB, hA, hB]) fun j ops h1 h2 h3 => by
        obtain ⟨tl2, h3⟩ := h3
        rcases tB_args h2 with h4 | ⟨h4, _⟩ | ⟨_, ⟨h4, h5⟩, h6, h7⟩
        · simp only at h4; omega
        · simp only at h4; omega
        · refine .two j k A B a b h1 hk2 h4 h5 h6 h7 ?_ ?_
          · rw [h3, j2, List.append_assoc]; exact i5.mono _
          · rw [h3]; exact j5.mono _
    obtain ⟨b1, ⟨tl2, b2⟩, b3, b4, b5⟩ := hbb
    exact ⟨b1, ⟨tl ++ tl1 ++ tl2, by rw [b2, j2, i2]; simp [List.append_assoc]⟩, b3, b4, b5⟩
theorem ndL_law {ns : List Bytes} : ∀ (l : List Ex), (∀ x ∈ l, VT x ∧ ∀ y ∈ preE x, y.k = 2 → y.s ∈ ns) → ∀ {st : BS}, BInv ns.length st →
    BInv ns.length (ndL ns.length ns l st).2 ∧ (∃ tl, (ndL ns.length ns l st).2.1 = st.1 ++ tl) ∧ ∀ (i : Nat) x, l[i]? = some x → ∃ k, (ndL ns.length ns l st).1[i]? = some k ∧ 0 ≤ k ∧ k < ns.length + (ndL ns.length ns l st).2.1.length ∧ Dn ns.length ns (ndL ns.length ns l st).2.1 k x
  | [], _, st, hi => ⟨hi, ⟨[], by simp [ndL]⟩, fun i x h => by simp at h⟩
  | x :: l, hl, st, hi => by
    obtain ⟨a1, ⟨tl, a2⟩, a3, a4, a5⟩ := nd_law (hl x List.mem_cons_self).1 (hl x List.mem_cons_self).2 hi
    obtain ⟨b1, ⟨tl2, b2⟩, b3⟩ := ndL_law l (fun y hy => hl y (List.mem_cons_of_mem _ hy)) a1
    simp only [ndL]
    refine ⟨b1, ⟨tl ++ tl2, by rw [b2, a2, List.append_assoc]⟩, fun i y hy => ?_⟩
    cases i with
    | zero =>
      simp at hy; subst hy
      refine ⟨_, rfl, a3, ?_, ?_⟩
      · rw [b2, List.length_append]; omega
      · rw [b2]; exact a5.mono tl2
    | succ i =>
      obtain ⟨k, c1, c2, c3, c4⟩ := b3 i y (by simpa using hy)
      exact ⟨k, by simpa using c1, c2, c3, c4⟩
/-- THE TAPE IS THE EXPRESSIONS. -/
theorem back_law {l : List Ex} {ns : List Bytes} {t : Tp} (h : cpE l ns = (t, 0)) :
    tvB t = true ∧ t.outs.length = l.length ∧ (∀ x ∈ l, okT x = true) ∧ (∀ (i : Nat) k x, t.outs[i]? = some k → l[i]? = some x → trE t k ns = (x, 0)) ∧ BInv ns.length (ndL ns.length ns l ([], [])).2 ∧ t = ⟨ns.length, (ndL ns.length ns l ([], [])).2.1, (ndL ns.length ns l ([], [])).1⟩ := by
  unfold cpE at h
  split at h
  · simp at h
  rename_i c1
  split at h
  · simp at h
  rename_i c2
  split at h
  · simp at h
  rename_i c3
  split at h
  · simp at h
  rename_i c4
  split at h
  · simp at h
  rename_i c5
  simp only [Prod.mk.injEq, and_true] at h
  have hok : ∀ x ∈ l, okT x = true := fun x hx => by
    have c1 : l.any badE = false := by
      cases e : l.any badE
      · rfl
      · exact absurd (.inl e) c1
    have := (List.any_eq_false.1 c1) x hx
    simpa [badE] using this
  have hbn : ns.any badN = false := by
    cases e : ns.any badN
    · rfl
    · exact absurd (.inr e) c1
  have hnw : ∀ x ∈ l, ∀ y ∈ preE x, y.k = 2 → y.s ∈ ns := fun x hx => by
    have c4 : l.any (newE ns) = false := by simpa using c4
    have := (List.any_eq_false.1 c4) x hx
    exact (new_ok (hok x hx)).1 (by simpa using this)
  have h0 : BInv ns.length (([], []) : BS) := ⟨rfl, fun x hx => by simp [mhas] at hx, fun x hx => by cases hx⟩
  obtain ⟨a1, _, a3⟩ := ndL_law l (fun x hx => ⟨okT_VT (hok x hx), hnw x hx⟩) h0
  have hlo := ndL_outs ns.length ns l ([], [])
  obtain ⟨R, hR⟩ : ∃ R, ndL ns.length ns l ([], []) = R := ⟨_, rfl⟩
  rw [hR] at a1 a3 hlo h c5 ⊢
  obtain ⟨outs, ops, at'⟩ := R
  simp only at a1 a3 hlo h c5
  subst h
  have hin : ∀ k ∈ outs, 0 ≤ k ∧ k < ns.length + ops.length := fun k hk => by
    obtain ⟨i, hi⟩ := List.getElem?_of_mem hk
    have hil := (List.getElem?_eq_some_iff.1 hi).1
    obtain ⟨k', b1, b2, b3, _⟩ := a3 i l[i] (List.getElem?_eq_getElem (by omega))
    rw [hi] at b1; cases b1
    exact ⟨b2, b3⟩
  have htv : tvB ⟨ns.length, ops, outs⟩ = true := by
    unfold tvB
    rw [decide_eq_true (by simp only; omega), a1.1, Bool.true_and, Bool.true_and, Bool.not_eq_true', List.any_eq_false]
    intro k hk
    have := hin k hk
    simp only [badK, Bool.or_eq_true, decide_eq_true_eq, not_or]; omega
  refine ⟨htv, hlo, hok, fun i k x hk hx => ?_, a1, rfl⟩
  obtain ⟨k', b1, b2, b3, b4⟩ := a3 i x hx
  rw [hk] at b1; cases b1
  have hxm := List.mem_of_getElem? hx
  have hsz := ((okT_iff x).1 (hok x hxm)).2.2
  have hbd := b4.bd (outs := outs) (k.toNat + 1) 200 (by omega) (by omega)
  unfold trE
  rw [if_neg (by rw [htv, hbn]; simp), if_neg c3, if_neg (by simp only; omega), hbd, if_neg (by rw [hok x hxm]; simp only [Bool.true_eq_false, or_false]; omega)]
theorem cp_len {l : List Ex} {ns : List Bytes} {t : Tp} (h : cpE l ns = (t, 0)) : l.length ≤ 200 := by
  unfold cpE at h
  split at h
  · simp at h
  split at h
  · simp at h
  omega
end Go.Proofs.YtmcdnbmamoggoaaGreat
