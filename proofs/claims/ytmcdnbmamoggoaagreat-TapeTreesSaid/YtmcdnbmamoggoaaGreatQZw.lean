/-
  The reference's tree of a value, plainly.
-/
import Derived.Test.YtmcdnbmamoggoaaGreatQTf
import Derived.Test.YtmcdnbmamoggoaaGreatQZ0
set_option linter.unusedVariables false
set_option linter.unusedSimpArgs false
namespace Go.Proofs.YtmcdnbmamoggoaaGreat
open Go Go.Sx
/-- The reference's size of the tree of a value. -/
def sgR (t : Tp) : Nat → Int → Nat
  | 0, _ => 1
  | f + 1, i => if i < t.ins then 1 else match t.ops[(i - t.ins).toNat]? with
    | none => 1
    | some o => if opn2 o.k = 0 then 1 else if opn2 o.k = 2 ∧ 1 + sgR t f o.a ≤ 200 then 1 + sgR t f o.a + sgR t f o.b else 1 + sgR t f o.a
/-- The reference's tree of a value. -/
def trR (t : Tp) (ns : List Bytes) : Nat → Int → Ex
  | 0, _ => zeroE
  | f + 1, i => if i < t.ins then varE (ns[i.toNat]?.getD []) else match t.ops[(i - t.ins).toNat]? with
    | none => zeroE
    | some o => if opn2 o.k = 0 then .mk o.k o.c [] o.n [] else if opn2 o.k = 1 then .mk o.k ⟨0, 0⟩ [] o.n [trR t ns f o.a] else .mk o.k ⟨0, 0⟩ [] o.n [trR t ns f o.a, trR t ns f o.b]
theorem sgR_le (t : Tp) : ∀ (f : Nat) (i : Int), sgR t f i ≤ 201 * f + 201
  | 0, i => by simp [sgR]
  | f + 1, i => by
    simp only [sgR]
    split
    · omega
    · split
      · omega
      · rename_i o _
        have h1 := sgR_le t f o.a
        have h2 := sgR_le t f o.b
        split
        · omega
        · split <;> omega
theorem tB_c {o : TOp} {n : Int} (h : tB o n = true) (hk : opn2 o.k ≠ 0) : o.c = ⟨0, 0⟩ := by
  obtain ⟨k, a, b, m, ⟨c, d⟩⟩ := o
  unfold tB at h
  simp only at h hk ⊢
  have h1 : ¬ k = 1 := fun e => hk (by rw [e]; rfl)
  rw [if_neg h1] at h
  split at h
  · simp only [Bool.and_eq_true, beq_iff_eq] at h
    obtain ⟨_, _, _, h5, h6⟩ := h
    rw [h5, h6]
  · split at h
    · simp only [Bool.and_eq_true, beq_iff_eq] at h
      obtain ⟨_, _, _, h5, h6⟩ := h
      rw [h5, h6]
    · split at h
      · simp only [Bool.and_eq_true, beq_iff_eq] at h
        obtain ⟨_, _, _, h5, h6⟩ := h
        rw [h5, h6]
      · cases h
theorem tr_law {t : Tp} (ns : List Bytes) (hv : tvB t = true) : ∀ (f : Nat) (i : Int), 0 ≤ i → i < f → i < t.ins + t.ops.length →
    (sizE (trR t ns f i) ≤ 200 → sgR t f i = sizE (trR t ns f i)) ∧ (200 < sizE (trR t ns f i) → 200 < sgR t f i) ∧
    ∀ left : Int, (sizE (trR t ns f i) ≤ left → bdE t ns f i left = (trR t ns f i, left - sizE (trR t ns f i))) ∧ (left < sizE (trR t ns f i) → (bdE t ns f i left).2 < 0)
  | 0, i, h0, h1, _ => by omega
  | f + 1, i, h0, h1, h2 => by
    obtain ⟨⟨v1, v2, v3, v4⟩, v5, v6⟩ := tvB_spec hv
    by_cases c2 : i < t.ins
    · have hs : sizE (varE (ns[i.toNat]?.getD [])) = 1 := by simp [varE, sizE, sizL]
      simp only [sgR, trR, bdE, if_pos c2, hs]
      refine ⟨fun _ => by simp, fun h => by omega, fun left => ⟨fun h => ?_, fun h => ?_⟩⟩
      · rw [if_neg (by omega)]; rfl
      · rw [if_pos (by omega)]; simp only; omega
    have hj : (i - t.ins).toNat < t.ops.length := by omega
    obtain ⟨o, ho⟩ : ∃ o, t.ops[(i - t.ins).toNat]? = some o := ⟨_, List.getElem?_eq_getElem hj⟩
    have htB := opsB_get v5 ho
    have hij : t.ins + ((i - t.ins).toNat : Int) = i := by omega
    rw [hij] at htB
    simp only [sgR, trR, bdE, if_neg c2, ho]
    rcases tB_args htB with c3 | ⟨c3, a1, a2⟩ | ⟨c3, ⟨a1, a2⟩, b1, b2⟩
    · simp only [if_pos c3]
      have hs : sizE (.mk o.k o.c [] o.n []) = 1 := by simp [sizE, sizL]
      simp only [hs]
      refine ⟨fun _ => by simp, fun h => by omega, fun left => ⟨fun h => ?_, fun h => ?_⟩⟩
      · rw [if_neg (by omega)]; rfl
      · rw [if_pos (by omega)]; simp only; omega
    · have hc := tB_c htB (by omega)
      obtain ⟨i1, i2, i3⟩ := tr_law ns hv f o.a a1 (by omega) (by omega)
      have e0 : ¬ opn2 o.k = 0 := by omega
      have e2 : ¬ (opn2 o.k = 2 ∧ 1 + sgR t f o.a ≤ 200) := by omega
      simp only [if_neg e0, if_neg e2, if_pos c3, hc]
      have hs : sizE (.mk o.k ⟨0, 0⟩ [] o.n [trR t ns f o.a]) = sizE (trR t ns f o.a) + 1 := by simp [sizE, sizL]
      have hp := sizE_pos (trR t ns f o.a)
      simp only [hs]
      refine ⟨fun h => ?_, fun h => ?_, fun left => ⟨fun h => ?_, fun h => ?_⟩⟩
      · have := i1 (by omega); omega
      · by_cases h3 : sizE (trR t ns f o.a) ≤ 200
        · have := i1 h3; omega
        · have := i2 (by omega); omega
      · rw [if_neg (by omega), (i3 (left - 1)).1 (by omega)]
        simp only [Prod.mk.injEq, true_and]; omega
      · by_cases h3 : left - 1 < 0
        · rw [if_pos h3]; simp only; omega
        · rw [if_neg h3]
          exact (i3 (left - 1)).2 (by omega)
    · have hc := tB_c htB (by omega)
      obtain ⟨i1, i2, i3⟩ := tr_law ns hv f o.a a1 (by omega) (by omega)
      obtain ⟨j1, j2, j3⟩ := tr_law ns hv f o.b b1 (by omega) (by omega)
      have e0 : ¬ opn2 o.k = 0 := by omega
      have e1 : ¬ opn2 o.k = 1 := by omega
      have e2 : (opn2 o.k = 2 ∧ 1 + sgR t f o.a ≤ 200) ↔ 1 + sgR t f o.a ≤ 200 := by simp [c3]
      simp only [if_neg e0, if_neg e1, e2, hc]
      have hs : sizE (.mk o.k ⟨0, 0⟩ [] o.n [trR t ns f o.a, trR t ns f o.b]) = sizE (trR t ns f o.a) + sizE (trR t ns f o.b) + 1 := by simp [sizE, sizL]
      have hp := sizE_pos (trR t ns f o.a)
      have hq := sizE_pos (trR t ns f o.b)
      simp only [hs]
      refine ⟨fun h => ?_, fun h => ?_, fun left => ⟨fun h => ?_, fun h => ?_⟩⟩
      · have h3 := i1 (by omega)
        have h4 := j1 (by omega)
        rw [if_pos (by omega)]; omega
      · split
        · rename_i h5
          have h3 : sizE (trR t ns f o.a) ≤ 200 := by
            by_cases h6 : sizE (trR t ns f o.a) ≤ 200
            · exact h6
            · have := i2 (by omega); omega
          have h4 := i1 h3
          by_cases h6 : sizE (trR t ns f o.b) ≤ 200
          · have := j1 h6; omega
          · have := j2 (by omega); omega
        · omega
      · rw [if_neg (by omega), (i3 (left - 1)).1 (by omega)]
        simp only
        rw [(j3 _).1 (by omega)]
        simp only [Prod.mk.injEq, true_and]; omega
      · by_cases h3 : left - 1 < 0
        · rw [if_pos h3]; simp only; omega
        · rw [if_neg h3]
          simp only
          by_cases h4 : (sizE (trR t ns f o.a) : Int) ≤ left - 1
          · rw [(i3 (left - 1)).1 h4]
            simp only
            exact (j3 _).2 (by omega)
          · have h5 := (i3 (left - 1)).2 (by omega)
            have h6 := (bd_left t ns f o.b (bdE t ns f o.a (left - 1)).2).1 (by omega)
            omega
/-- The reference's Expr. -/
def exR (t : Tp) (i : Int) (ns : List Bytes) : Ex × Int :=
  if tvB t = false ∨ (ns.length : Int) ≠ t.ins ∨ ns.any badN = true then (zeroE, 1) else if twB ns = true then (zeroE, 8) else if i < 0 ∨ t.ins + t.ops.length ≤ i then (zeroE, 2)
  else if 200 < sgR t (i.toNat + 1) i then (zeroE, 5) else if okT (trR t ns (i.toNat + 1) i) = false then (zeroE, 5) else (trR t ns (i.toNat + 1) i, 0)
theorem exR_trE (t : Tp) (i : Int) (ns : List Bytes) : exR t i ns = trE t i ns := by
  unfold exR trE
  split
  · rfl
  rename_i c1
  split
  · rfl
  split
  · rfl
  rename_i c3
  have hv : tvB t = true := by
    cases e : tvB t with
    | true => rfl
    | false => exact absurd (.inl e) c1
  obtain ⟨l1, l2, l3⟩ := tr_law ns hv (i.toNat + 1) i (by omega) (by omega) (by omega)
  by_cases h : sizE (trR t ns (i.toNat + 1) i) ≤ 200
  · have h1 := l1 h
    have h2 := (l3 200).1 (by omega)
    rw [if_neg (by omega), h2]
    simp only
    by_cases h4 : okT (trR t ns (i.toNat + 1) i) = false
    · rw [if_pos h4, if_pos (.inr h4)]
    · rw [if_neg h4, if_neg (by simp only [not_or]; exact ⟨by omega, h4⟩)]
  · have h1 := l2 (by omega)
    have h2 := (l3 200).2 (by omega)
    rw [if_pos h1, if_pos (.inl h2)]
theorem Sm_tr (t : Tp) (ns : List Bytes) (hns : ∀ x ∈ ns, x.length < 9223372036854775808) : ∀ (f : Nat) (i : Int), Sm (trR t ns f i)
  | 0, i => Sm_zero
  | f + 1, i => by
    simp only [trR]
    split
    · cases h : ns[i.toNat]? with
      | none => simp [varE, Sm, SmL]
      | some x => simp only [Option.getD_some, varE, Sm]; exact ⟨hns x (List.mem_of_getElem? h), by simp, trivial⟩
    · split
      · exact Sm_zero
      · split
        · simp [Sm, SmL]
        · split
          · simp only [Sm, SmL]; exact ⟨by simp, by simp, Sm_tr t ns hns f _, trivial⟩
          · simp only [Sm, SmL]; exact ⟨by simp, by simp, Sm_tr t ns hns f _, Sm_tr t ns hns f _, trivial⟩
end Go.Proofs.YtmcdnbmamoggoaaGreat

/-
  Seat .Z: the reference's size, Tree.
-/
namespace Go.Proofs.YtmcdnbmamoggoaaGreat
open Go Go.Sx
set_option maxRecDepth 100000
set_option maxHeartbeats 8000000
theorem opn2_kinds {k : Int} (h : opn2 k = 1) : k ≠ 1 ∧ k ≠ 3 ∧ k ≠ 4 ∧ k ≠ 5 ∧ k ≠ 6 := by
  have h1 := opn2_1 h
  refine ⟨fun e => ?_, by omega, by omega, by omega, by omega⟩
  rw [e] at h; exact absurd h (by decide)
theorem opn2_two {k : Int} (h : opn2 k = 2) : k = 3 ∨ k = 4 ∨ k = 5 ∨ k = 6 := by
  unfold opn2 at h
  split at h
  · cases h
  · split at h
    · assumption
    · split at h <;> omega
section
variable (t : Tp) (ns : List Bytes) (hv : tvB t = true) (hns : (ns.length : Int) = t.ins)
include hv in
theorem z39 : ∀ (f : Nat) (i : Int), 0 ≤ i → i < f → i < t.ins + t.ops.length → f ≤ 1000 →
    Fn 39 [] [.agg (tpC t), .int .i64 i] (.int .i64 (sgR t f i : Nat)) []
  | 0, i, h0, h1, _, _ => by omega
  | f + 1, i, h0, h1, h2, h3 => by
    obtain ⟨⟨v1, v2, v3, v4⟩, v5, v6⟩ := tvB_spec hv
    obtain ⟨R, hR⟩ : ∃ R, sgR t (f + 1) i = R := ⟨_, rfl⟩
    rw [hR]
    simp only [sgR] at hR
    by_cases c2 : i < t.ins
    · rw [if_pos c2] at hR
      subst hR
      refine fnT hT2 hmx Tryz.func39 rfl rfl (ex := []) ?_
      conv => whnf
      refine brI (fun h => ?_) (fun h => absurd c2 (by simpa using h))
      conv => whnf
      exact ⟨leA_refl rfl, leH_nil⟩
    rw [if_neg c2] at hR
    have hj : (i - t.ins).toNat < t.ops.length := by omega
    obtain ⟨o, ho⟩ : ∃ o, t.ops[(i - t.ins).toNat]? = some o := ⟨_, List.getElem?_eq_getElem hj⟩
    rw [ho] at hR
    simp only at hR
    have htB := opsB_get v5 ho
    have hij : t.ins + ((i - t.ins).toNat : Int) = i := by omega
    rw [hij] at htB
    obtain ⟨k, a, b, n, c⟩ := o
    simp only at hR htB
    rcases tB_args htB with c3 | ⟨c3, a1, a2⟩ | ⟨c3, ⟨a1, a2⟩, b1, b2⟩
    · simp only at c3
      obtain rfl := opn2_0 c3
      rw [if_pos c3] at hR
      subst hR
      refine fnT hT2 hmx Tryz.func39 rfl rfl (ex := []) ?_
      conv => whnf
      refine brI (fun h => absurd (show i < t.ins by simpa using h) c2) (fun _ => ?_)
      conv => whnf
      rw [wI (x := i - t.ins) (by omega)]
      refine ⟨⟨by omega, by omega⟩, fun (x : TOp) hx => ?_⟩
      rw [ho] at hx
      cases hx
      conv => whnf
      exact ⟨leA_refl rfl, leH_nil⟩
    · simp only at c3 a1 a2
      obtain ⟨k1, k3, k4, k5, k6⟩ := opn2_kinds c3
      rw [if_neg (by omega), if_neg (by omega)] at hR
      have hA := z39 f a a1 (by omega) (by omega) (by omega)
      have hlA := sgR_le t f a
      subst hR
      refine fnT hT2 hmx Tryz.func39 rfl rfl (ex := []) ?_
      conv => whnf
      refine brI (fun h => absurd (show i < t.ins by simpa using h) c2) (fun _ => ?_)
      conv => whnf
      rw [wI (x := i - t.ins) (by omega)]
      refine ⟨⟨by omega, by omega⟩, fun (x : TOp) hx => ?_⟩
      rw [ho] at hx
      cases hx
      conv => whnf
      refine brI (fun h => ?_) (fun h => absurd (show k = 1 by simpa using h) k1)
      conv => whnf
      refine ⟨[], _, hA, ?_⟩
      conv => whnf
      refine brI (fun _ => ?_) (fun _ => ?_)
      · conv => whnf
        refine brI (fun h => absurd (show k = 3 by simpa using h) k3) (fun _ => ?_)
        conv => whnf
        refine brI (fun h => absurd (show k = 4 by simpa using h) k4) (fun _ => ?_)
        conv => whnf
        refine brI (fun h => absurd (show k = 5 by simpa using h) k5) (fun _ => ?_)
        conv => whnf
        refine brI (fun h => absurd (show k = 6 by simpa using h) k6) (fun _ => ?_)
        conv => whnf
        exact ⟨leA_int (by rw [wI (by omega)]; omega), leH_nil⟩
      · conv => whnf
        exact ⟨leA_int (by rw [wI (by omega)]; omega), leH_nil⟩
    · simp only at c3 a1 a2 b1 b2
      rw [if_neg (by omega)] at hR
      have hA := z39 f a a1 (by omega) (by omega) (by omega)
      have hlA := sgR_le t f a
      have hB := z39 f b b1 (by omega) (by omega) (by omega)
      have hlB := sgR_le t f b
      rcases opn2_two c3 with rfl | rfl | rfl | rfl
      · refine fnT hT2 hmx Tryz.func39 rfl rfl (ex := []) ?_
        conv => whnf
        refine brI (fun h => absurd (show i < t.ins by simpa using h) c2) (fun _ => ?_)
        conv => whnf
        rw [wI (x := i - t.ins) (by omega)]
        refine ⟨⟨by omega, by omega⟩, fun (x : TOp) hx => ?_⟩
        rw [ho] at hx
        cases hx
        conv => whnf
        refine ⟨[], _, hA, ?_⟩
        conv => whnf
        refine brI (fun h => ?_) (fun h => ?_)
        · have h : decide (IntKind.i64.wrap (1 + ((sgR t f a : Nat) : Int)) ≤ 200) = true := h
          rw [wI (by omega)] at h
          simp only [decide_eq_true_eq] at h
          rw [if_pos ⟨rfl, by omega⟩] at hR
          subst hR
          conv => whnf
          refine ⟨[], _, hB, ?_⟩
          conv => whnf
          exact ⟨leA_int (by rw [wI (x := 1 + ((sgR t f a : Nat) : Int)) (by omega), wI (by omega)]; omega), leH_nil⟩
        · have h : decide (IntKind.i64.wrap (1 + ((sgR t f a : Nat) : Int)) ≤ 200) = false := h
          rw [wI (by omega)] at h
          simp only [decide_eq_false_iff_not] at h
          rw [if_neg (by omega)] at hR
          subst hR
          conv => whnf
          exact ⟨leA_int (by rw [wI (by omega)]; omega), leH_nil⟩
      · refine fnT hT2 hmx Tryz.func39 rfl rfl (ex := []) ?_
        conv => whnf
        refine brI (fun h => absurd (show i < t.ins by simpa using h) c2) (fun _ => ?_)
        conv => whnf
        rw [wI (x := i - t.ins) (by omega)]
        refine ⟨⟨by omega, by omega⟩, fun (x : TOp) hx => ?_⟩
        rw [ho] at hx
        cases hx
        conv => whnf
        refine ⟨[], _, hA, ?_⟩
        conv => whnf
        refine brI (fun h => ?_) (fun h => ?_)
        · have h : decide (IntKind.i64.wrap (1 + ((sgR t f a : Nat) : Int)) ≤ 200) = true := h
          rw [wI (by omega)] at h
          simp only [decide_eq_true_eq] at h
          rw [if_pos ⟨rfl, by omega⟩] at hR
          subst hR
          conv => whnf
          refine ⟨[], _, hB, ?_⟩
          conv => whnf
          exact ⟨leA_int (by rw [wI (x := 1 + ((sgR t f a : Nat) : Int)) (by omega), wI (by omega)]; omega), leH_nil⟩
        · have h : decide (IntKind.i64.wrap (1 + ((sgR t f a : Nat) : Int)) ≤ 200) = false := h
          rw [wI (by omega)] at h
          simp only [decide_eq_false_iff_not] at h
          rw [if_neg (by omega)] at hR
          subst hR
          conv => whnf
          exact ⟨leA_int (by rw [wI (by omega)]; omega), leH_nil⟩
      · refine fnT hT2 hmx Tryz.func39 rfl rfl (ex := []) ?_
        conv => whnf
        refine brI (fun h => absurd (show i < t.ins by simpa using h) c2) (fun _ => ?_)
        conv => whnf
        rw [wI (x := i - t.ins) (by omega)]
        refine ⟨⟨by omega, by omega⟩, fun (x : TOp) hx => ?_⟩
        rw [ho] at hx
        cases hx
        conv => whnf
        refine ⟨[], _, hA, ?_⟩
        conv => whnf
        refine brI (fun h => ?_) (fun h => ?_)
        · have h : decide (IntKind.i64.wrap (1 + ((sgR t f a : Nat) : Int)) ≤ 200) = true := h
          rw [wI (by omega)] at h
          simp only [decide_eq_true_eq] at h
          rw [if_pos ⟨rfl, by omega⟩] at hR
          subst hR
          conv => whnf
          refine ⟨[], _, hB, ?_⟩
          conv => whnf
          exact ⟨leA_int (by rw [wI (x := 1 + ((sgR t f a : Nat) : Int)) (by omega), wI (by omega)]; omega), leH_nil⟩
        · have h : decide (IntKind.i64.wrap (1 + ((sgR t f a : Nat) : Int)) ≤ 200) = false := h
          rw [wI (by omega)] at h
          simp only [decide_eq_false_iff_not] at h
          rw [if_neg (by omega)] at hR
          subst hR
          conv => whnf
          exact ⟨leA_int (by rw [wI (by omega)]; omega), leH_nil⟩
      · refine fnT hT2 hmx Tryz.func39 rfl rfl (ex := []) ?_
        conv => whnf
        refine brI (fun h => absurd (show i < t.ins by simpa using h) c2) (fun _ => ?_)
        conv => whnf
        rw [wI (x := i - t.ins) (by omega)]
        refine ⟨⟨by omega, by omega⟩, fun (x : TOp) hx => ?_⟩
        rw [ho] at hx
        cases hx
        conv => whnf
        refine ⟨[], _, hA, ?_⟩
        conv => whnf
        refine brI (fun h => ?_) (fun h => ?_)
        · have h : decide (IntKind.i64.wrap (1 + ((sgR t f a : Nat) : Int)) ≤ 200) = true := h
          rw [wI (by omega)] at h
          simp only [decide_eq_true_eq] at h
          rw [if_pos ⟨rfl, by omega⟩] at hR
          subst hR
          conv => whnf
          refine ⟨[], _, hB, ?_⟩
          conv => whnf
          exact ⟨leA_int (by rw [wI (x := 1 + ((sgR t f a : Nat) : Int)) (by omega), wI (by omega)]; omega), leH_nil⟩
        · have h : decide (IntKind.i64.wrap (1 + ((sgR t f a : Nat) : Int)) ≤ 200) = false := h
          rw [wI (by omega)] at h
          simp only [decide_eq_false_iff_not] at h
          rw [if_neg (by omega)] at hR
          subst hR
          conv => whnf
          exact ⟨leA_int (by rw [wI (by omega)]; omega), leH_nil⟩
include hv hns in
theorem z40 : ∀ (f : Nat) (i : Int), 0 ≤ i → i < f → i < t.ins + t.ops.length → f ≤ 1000 →
    Fn 40 [] [.agg (tpC t), .int .i64 i, .sl .str ns] (.agg (exC (trR t ns f i))) []
  | 0, i, h0, h1, _, _ => by omega
  | f + 1, i, h0, h1, h2, h3 => by
    obtain ⟨⟨v1, v2, v3, v4⟩, v5, v6⟩ := tvB_spec hv
    obtain ⟨R, hR⟩ : ∃ R, trR t ns (f + 1) i = R := ⟨_, rfl⟩
    rw [hR]
    simp only [trR] at hR
    by_cases c2 : i < t.ins
    · rw [if_pos c2] at hR
      subst hR
      refine fnT hT2 hmx Tryz.func40 rfl rfl (ex := []) ?_
      conv => whnf
      refine brI (fun h => ?_) (fun h => absurd c2 (by simpa using h))
      conv => whnf
      refine ⟨⟨by omega, by omega⟩, fun (x : Bytes) hx => ?_⟩
      rw [hx]
      conv => whnf
      exact ⟨leA_agg (leL_cons (leA_refl rfl) (leL_cons (leA_refl rfl) (leL_cons (leA_refl rfl) (leL_cons (leA_refl rfl) (leL_cons (leA_refl rfl) (leL_cons (leA_nil rfl) leL_nil)))))), leH_nil⟩
    rw [if_neg c2] at hR
    have hj : (i - t.ins).toNat < t.ops.length := by omega
    obtain ⟨o, ho⟩ : ∃ o, t.ops[(i - t.ins).toNat]? = some o := ⟨_, List.getElem?_eq_getElem hj⟩
    rw [ho] at hR
    simp only at hR
    have htB := opsB_get v5 ho
    have hij : t.ins + ((i - t.ins).toNat : Int) = i := by omega
    rw [hij] at htB
    obtain ⟨k, a, b, n, c⟩ := o
    simp only at hR htB
    rcases tB_args htB with c3 | ⟨c3, a1, a2⟩ | ⟨c3, ⟨a1, a2⟩, b1, b2⟩
    · simp only at c3
      obtain rfl := opn2_0 c3
      rw [if_pos c3] at hR
      subst hR
      refine fnT hT2 hmx Tryz.func40 rfl rfl (ex := []) ?_
      conv => whnf
      refine brI (fun h => absurd (show i < t.ins by simpa using h) c2) (fun _ => ?_)
      conv => whnf
      rw [wI (x := i - t.ins) (by omega)]
      refine ⟨⟨by omega, by omega⟩, fun (x : TOp) hx => ?_⟩
      rw [ho] at hx
      cases hx
      conv => whnf
      exact ⟨leA_agg (leL_cons (leA_refl rfl) (leL_cons (leA_refl rfl) (leL_cons (leA_refl rfl) (leL_cons (leA_refl rfl) (leL_cons (leA_refl rfl) (leL_cons (leA_nil rfl) leL_nil)))))), leH_nil⟩
    · simp only at c3 a1 a2
      obtain ⟨k1, k3, k4, k5, k6⟩ := opn2_kinds c3
      rw [if_neg (by omega), if_pos c3] at hR
      have hA := z40 f a a1 (by omega) (by omega) (by omega)
      obtain ⟨A, hA1⟩ : ∃ A, trR t ns f a = A := ⟨_, rfl⟩
      rw [hA1] at hA hR
      subst hR
      refine fnT hT2 hmx Tryz.func40 rfl rfl (ex := []) ?_
      conv => whnf
      refine brI (fun h => absurd (show i < t.ins by simpa using h) c2) (fun _ => ?_)
      conv => whnf
      rw [wI (x := i - t.ins) (by omega)]
      refine ⟨⟨by omega, by omega⟩, fun (x : TOp) hx => ?_⟩
      rw [ho] at hx
      cases hx
      conv => whnf
      refine brI (fun h => absurd (show k = 1 by simpa using h) k1) (fun _ => ?_)
      conv => whnf
      refine ⟨[], _, hA, ?_⟩
      conv => whnf
      refine ⟨by simp, ?_⟩
      conv => whnf
      (refine ⟨by kernel_rfl, by kernel_rfl, ?_⟩; (conv => whnf))
      refine brI (fun h => absurd (show k = 3 by simpa using h) k3) (fun _ => ?_)
      conv => whnf
      refine brI (fun h => absurd (show k = 4 by simpa using h) k4) (fun _ => ?_)
      conv => whnf
      refine brI (fun h => absurd (show k = 5 by simpa using h) k5) (fun _ => ?_)
      conv => whnf
      refine brI (fun h => absurd (show k = 6 by simpa using h) k6) (fun _ => ?_)
      conv => whnf
      exact ⟨leA_agg (leL_cons (leA_refl rfl) (leL_cons (leA_refl rfl) (leL_cons (leA_refl rfl) (leL_cons (leA_refl rfl) (leL_cons (leA_refl rfl) (leL_cons (leA_sl (by show [_] = [A]; rw [Ex.eta2])) leL_nil)))))), leH_nil⟩
    · simp only at c3 a1 a2 b1 b2
      rw [if_neg (by omega), if_neg (by omega)] at hR
      have hA := z40 f a a1 (by omega) (by omega) (by omega)
      obtain ⟨A, hA1⟩ : ∃ A, trR t ns f a = A := ⟨_, rfl⟩
      rw [hA1] at hA hR
      have hB := z40 f b b1 (by omega) (by omega) (by omega)
      obtain ⟨B, hB1⟩ : ∃ B, trR t ns f b = B := ⟨_, rfl⟩
      rw [hB1] at hB hR
      subst hR
      rcases opn2_two c3 with rfl | rfl | rfl | rfl
      · refine fnT hT2 hmx Tryz.func40 rfl rfl (ex := []) ?_
        conv => whnf
        refine brI (fun h => absurd (show i < t.ins by simpa using h) c2) (fun _ => ?_)
        conv => whnf
        rw [wI (x := i - t.ins) (by omega)]
        refine ⟨⟨by omega, by omega⟩, fun (x : TOp) hx => ?_⟩
        rw [ho] at hx
        cases hx
        conv => whnf
        refine ⟨[], _, hA, ?_⟩
        conv => whnf
        refine ⟨by simp, ?_⟩
        conv => whnf
        (refine ⟨by kernel_rfl, by kernel_rfl, ?_⟩; (conv => whnf))
        refine ⟨[], _, hB, ?_⟩
        conv => whnf
        refine ⟨by simp, ?_⟩
        conv => whnf
        (refine ⟨by kernel_rfl, by kernel_rfl, ?_⟩; (conv => whnf))
        exact ⟨leA_agg (leL_cons (leA_refl rfl) (leL_cons (leA_refl rfl) (leL_cons (leA_refl rfl) (leL_cons (leA_refl rfl) (leL_cons (leA_refl rfl) (leL_cons (leA_sl (by show [_, _] = [A, B]; rw [Ex.eta2, Ex.eta2])) leL_nil)))))), leH_nil⟩
      · refine fnT hT2 hmx Tryz.func40 rfl rfl (ex := []) ?_
        conv => whnf
        refine brI (fun h => absurd (show i < t.ins by simpa using h) c2) (fun _ => ?_)
        conv => whnf
        rw [wI (x := i - t.ins) (by omega)]
        refine ⟨⟨by omega, by omega⟩, fun (x : TOp) hx => ?_⟩
        rw [ho] at hx
        cases hx
        conv => whnf
        refine ⟨[], _, hA, ?_⟩
        conv => whnf
        refine ⟨by simp, ?_⟩
        conv => whnf
        (refine ⟨by kernel_rfl, by kernel_rfl, ?_⟩; (conv => whnf))
        refine ⟨[], _, hB, ?_⟩
        conv => whnf
        refine ⟨by simp, ?_⟩
        conv => whnf
        (refine ⟨by kernel_rfl, by kernel_rfl, ?_⟩; (conv => whnf))
        exact ⟨leA_agg (leL_cons (leA_refl rfl) (leL_cons (leA_refl rfl) (leL_cons (leA_refl rfl) (leL_cons (leA_refl rfl) (leL_cons (leA_refl rfl) (leL_cons (leA_sl (by show [_, _] = [A, B]; rw [Ex.eta2, Ex.eta2])) leL_nil)))))), leH_nil⟩
      · refine fnT hT2 hmx Tryz.func40 rfl rfl (ex := []) ?_
        conv => whnf
        refine brI (fun h => absurd (show i < t.ins by simpa using h) c2) (fun _ => ?_)
        conv => whnf
        rw [wI (x := i - t.ins) (by omega)]
        refine ⟨⟨by omega, by omega⟩, fun (x : TOp) hx => ?_⟩
        rw [ho] at hx
        cases hx
        conv => whnf
        refine ⟨[], _, hA, ?_⟩
        conv => whnf
        refine ⟨by simp, ?_⟩
        conv => whnf
        (refine ⟨by kernel_rfl, by kernel_rfl, ?_⟩; (conv => whnf))
        refine ⟨[], _, hB, ?_⟩
        conv => whnf
        refine ⟨by simp, ?_⟩
        conv => whnf
        (refine ⟨by kernel_rfl, by kernel_rfl, ?_⟩; (conv => whnf))
        exact ⟨leA_agg (leL_cons (leA_refl rfl) (leL_cons (leA_refl rfl) (leL_cons (leA_refl rfl) (leL_cons (leA_refl rfl) (leL_cons (leA_refl rfl) (leL_cons (leA_sl (by show [_, _] = [A, B]; rw [Ex.eta2, Ex.eta2])) leL_nil)))))), leH_nil⟩
      · refine fnT hT2 hmx Tryz.func40 rfl rfl (ex := []) ?_
        conv => whnf
        refine brI (fun h => absurd (show i < t.ins by simpa using h) c2) (fun _ => ?_)
        conv => whnf
        rw [wI (x := i - t.ins) (by omega)]
        refine ⟨⟨by omega, by omega⟩, fun (x : TOp) hx => ?_⟩
        rw [ho] at hx
        cases hx
        conv => whnf
        refine ⟨[], _, hA, ?_⟩
        conv => whnf
        refine ⟨by simp, ?_⟩
        conv => whnf
        (refine ⟨by kernel_rfl, by kernel_rfl, ?_⟩; (conv => whnf))
        refine ⟨[], _, hB, ?_⟩
        conv => whnf
        refine ⟨by simp, ?_⟩
        conv => whnf
        (refine ⟨by kernel_rfl, by kernel_rfl, ?_⟩; (conv => whnf))
        exact ⟨leA_agg (leL_cons (leA_refl rfl) (leL_cons (leA_refl rfl) (leL_cons (leA_refl rfl) (leL_cons (leA_refl rfl) (leL_cons (leA_refl rfl) (leL_cons (leA_sl (by show [_, _] = [A, B]; rw [Ex.eta2, Ex.eta2])) leL_nil)))))), leH_nil⟩
end
end Go.Proofs.YtmcdnbmamoggoaaGreat
