/-
  Trees as plain data: valid ones, their depth, their size.
-/
import Derived.Test.YtnijmbnkcmhfpaaGreatDoorQUB
set_option linter.unusedVariables false
set_option linter.unusedSimpArgs false
namespace Go.Proofs.YtnijmbnkcmhfpaaGreatDoor
open Go Go.Sx
mutual
def depE : Ex → Nat
  | .mk _ _ _ _ l => depL l + 1
def depL : List Ex → Nat
  | [] => 0
  | x :: l => max (depE x) (depL l)
end
mutual
def sizE : Ex → Nat
  | .mk _ _ _ _ l => sizL l + 1
def sizL : List Ex → Nat
  | [] => 0
  | x :: l => sizE x + sizL l
end
mutual
/-- Every node is sound. -/
def VS : Ex → Prop
  | .mk k q s p l => nodeB (.mk k q s p l) = true ∧ VSL l
def VSL : List Ex → Prop
  | [] => True
  | x :: l => VS x ∧ VSL l
end
mutual
theorem cntE_iff : ∀ (e : Ex) (d n : Nat), ((cntE e d n).1 = true ↔ VS e ∧ d + depE e ≤ 21 ∧ n + sizE e ≤ 200) ∧ ((cntE e d n).1 = true → (cntE e d n).2 = n + sizE e)
  | .mk k q s p l, d, n => by
    simp only [cntE, VS, depE, sizE]
    by_cases h : d ≤ 20 ∧ n + 1 ≤ 200 ∧ nodeB (.mk k q s p l) = true
    · rw [if_pos h]
      have ih := cntL_iff l (d + 1) (n + 1) (by omega) (by omega)
      refine ⟨⟨fun h1 => ?_, fun h1 => ?_⟩, fun h1 => ?_⟩
      · have := ih.1.1 h1; exact ⟨⟨h.2.2, this.1⟩, by omega, by omega⟩
      · exact ih.1.2 ⟨h1.1.2, by omega, by omega⟩
      · have := ih.2 h1; omega
    · rw [if_neg h]
      refine ⟨⟨fun h1 => by simp at h1, fun h1 => absurd ⟨by omega, by omega, h1.1.1⟩ h⟩, fun h1 => by simp at h1⟩
theorem cntL_iff : ∀ (l : List Ex) (d n : Nat), d ≤ 21 → n ≤ 200 → ((cntL l d n).1 = true ↔ VSL l ∧ d + depL l ≤ 21 ∧ n + sizL l ≤ 200) ∧ ((cntL l d n).1 = true → (cntL l d n).2 = n + sizL l)
  | [], d, n, hd, hn => by
    simp only [cntL, VSL, depL, sizL]
    exact ⟨⟨fun _ => ⟨trivial, by omega, by omega⟩, fun _ => trivial⟩, fun _ => rfl⟩
  | x :: l, d, n, hd, hn => by
    have ih := cntE_iff x d n
    simp only [cntL, VSL, depL, sizL]
    rcases hx : cntE x d n with ⟨b, m⟩
    rw [hx] at ih
    cases b with
    | true =>
      have h1 := ih.1.1 rfl
      have h2 : m = n + sizE x := ih.2 rfl
      subst h2
      have ih2 := cntL_iff l d (n + sizE x) hd (by omega)
      refine ⟨⟨fun h => ?_, fun h => ?_⟩, fun h => ?_⟩
      · have := ih2.1.1 h; exact ⟨⟨h1.1, this.1⟩, by omega, by omega⟩
      · exact ih2.1.2 ⟨h.1.2, by omega, by omega⟩
      · have := ih2.2 h; simp only at this ⊢; omega
    | false =>
      refine ⟨⟨fun h => by simp at h, fun h => ?_⟩, fun h => by simp at h⟩
      have := ih.1.2 ⟨h.1.1, by omega, by omega⟩
      simp at this
end
theorem okT_iff (e : Ex) : okT e = true ↔ VS e ∧ depE e ≤ 20 ∧ sizE e ≤ 200 := by
  have := (cntE_iff e 1 0).1
  unfold okT
  rw [this]
  constructor
  · rintro ⟨h1, h2, h3⟩; exact ⟨h1, by omega, by omega⟩
  · rintro ⟨h1, h2, h3⟩; exact ⟨h1, by omega, by omega⟩

def varE (s : Bytes) : Ex := .mk 2 ⟨0, 0⟩ s 0 []
/-- One-place operations without an exponent; two-place operations. -/
def K1 (k : Int) : Prop := k = 7 ∨ k = 9 ∨ k = 10 ∨ k = 11 ∨ k = 12 ∨ k = 13
def K2 (k : Int) : Prop := k = 3 ∨ k = 4 ∨ k = 5 ∨ k = 6
inductive VT : Ex → Prop
  | num (r : Rt) : rOk r = true → VT (ratE r)
  | var (s : Bytes) : nameB s = true → VT (varE s)
  | un (k : Int) (a : Ex) : K1 k → VT a → VT (opE k 0 [a])
  | pow (n : Int) (a : Ex) : 0 ≤ n → n ≤ 16 → VT a → VT (opE 8 n [a])
  | bin (k : Int) (a b : Ex) : K2 k → VT a → VT b → VT (opE k 0 [a, b])
theorem VSL_mem : ∀ {l : List Ex}, VSL l → ∀ x ∈ l, VS x
  | [], _, x, hx => by simp at hx
  | y :: l, h, x, hx => by
    rcases List.mem_cons.1 hx with rfl | hx
    · exact h.1
    · exact VSL_mem h.2 x hx
theorem len1 {α : Type} {l : List α} (h : l.length = 1) : ∃ a, l = [a] := by
  match l, h with
  | [a], _ => exact ⟨a, rfl⟩
theorem len2 {α : Type} {l : List α} (h : l.length = 2) : ∃ a b, l = [a, b] := by
  match l, h with
  | [a, b], _ => exact ⟨a, b, rfl⟩
theorem VS_VT : ∀ e, VS e → VT e := by
  refine exInd fun k q s p l ih h => ?_
  simp only [VS] at h
  obtain ⟨hn, hl⟩ := h
  have hall : ∀ x ∈ l, VT x := fun x hx => ih x hx (VSL_mem hl x hx)
  have hn : (if k = 1 then numB (.mk k q s p l) else if k = 2 then varB (.mk k q s p l) else if k = 8 then powB (.mk k q s p l) else opB (.mk k q s p l)) = true := hn
  by_cases hk1 : k = 1
  · rw [if_pos hk1] at hn
    subst hk1
    have hn : (rOk q && (s == []) && decide (p = 0) && decide (l.length = 0)) = true := hn
    simp only [Bool.and_eq_true, decide_eq_true_eq, beq_iff_eq] at hn
    obtain ⟨⟨⟨h1, rfl⟩, rfl⟩, h2⟩ := hn
    obtain rfl : l = [] := List.length_eq_zero_iff.1 h2
    exact VT.num q h1
  · rw [if_neg hk1] at hn
    by_cases hk2 : k = 2
    · rw [if_pos hk2] at hn
      subst hk2
      have hn : (decide (q = ⟨0, 0⟩) && nameB s && decide (p = 0) && decide (l.length = 0)) = true := hn
      simp only [Bool.and_eq_true, decide_eq_true_eq, beq_iff_eq] at hn
      obtain ⟨⟨⟨rfl, h1⟩, rfl⟩, h2⟩ := hn
      obtain rfl : l = [] := List.length_eq_zero_iff.1 h2
      exact VT.var s h1
    · rw [if_neg hk2] at hn
      by_cases hk8 : k = 8
      · rw [if_pos hk8] at hn
        subst hk8
        have hn : (decide (q = ⟨0, 0⟩) && (s == []) && decide (0 ≤ p) && decide (p ≤ 16) && decide (l.length = 1)) = true := hn
        simp only [Bool.and_eq_true, decide_eq_true_eq, beq_iff_eq] at hn
        obtain ⟨⟨⟨⟨rfl, rfl⟩, h1⟩, h2⟩, h3⟩ := hn
        obtain ⟨a, rfl⟩ := len1 h3
        exact VT.pow p a h1 h2 (hall a (by simp))
      · rw [if_neg hk8] at hn
        have hn : (decide (q = ⟨0, 0⟩) && (s == []) && decide (p = 0) && decide ((l.length : Int) = opn k)) = true := hn
        simp only [Bool.and_eq_true, decide_eq_true_eq, beq_iff_eq] at hn
        obtain ⟨⟨⟨rfl, rfl⟩, rfl⟩, h1⟩ := hn
        unfold opn at h1
        split at h1
        · obtain ⟨a, b, rfl⟩ := len2 (l := l) (by omega)
          exact VT.bin k a b ‹_› (hall a (by simp)) (hall b (by simp))
        · split at h1
          · obtain ⟨a, rfl⟩ := len1 (l := l) (by omega)
            exact VT.un k a (by unfold K1; omega) (hall a (by simp))
          · omega
theorem VT_VS {e : Ex} (h : VT e) : VS e := by
  induction h with
  | num r hr => simp [ratE, VS, VSL, nodeB, numB, Ex.k, Ex.q, Ex.s, Ex.p, Ex.l, hr]
  | var s hs => simp [varE, VS, VSL, nodeB, varB, Ex.k, Ex.q, Ex.s, Ex.p, Ex.l, hs]
  | un k a hk _ ih =>
    rcases hk with rfl | rfl | rfl | rfl | rfl | rfl <;> simp [opE, VS, VSL, nodeB, opB, opn, Ex.k, Ex.q, Ex.s, Ex.p, Ex.l, ih]
  | pow n a h1 h2 _ ih => simp [opE, VS, VSL, nodeB, powB, Ex.k, Ex.q, Ex.s, Ex.p, Ex.l, ih, h1, h2]
  | bin k a b hk _ _ ih1 ih2 =>
    rcases hk with rfl | rfl | rfl | rfl <;> simp [opE, VS, VSL, nodeB, opB, opn, Ex.k, Ex.q, Ex.s, Ex.p, Ex.l, ih1, ih2]
theorem VT_iff (e : Ex) : VT e ↔ VS e := ⟨VT_VS, VS_VT e⟩
theorem okT_VT {e : Ex} (h : okT e = true) : VT e := VS_VT e ((okT_iff e).1 h).1
theorem nameB_len {s : Bytes} (h : nameB s = true) : s.length ≤ 20 := by
  simp only [nameB, Bool.and_eq_true, decide_eq_true_eq] at h; exact h.1.2
theorem VT_Sm {e : Ex} (h : VT e) : Sm e := by
  induction h with
  | num r hr => simp [ratE, Sm, SmL]
  | var s hs => have := nameB_len hs; simp only [varE, Sm, SmL, List.length_nil]; exact ⟨by omega, by omega, trivial⟩
  | un k a hk _ ih => simp [opE, Sm, SmL, ih]
  | pow n a h1 h2 _ ih => simp [opE, Sm, SmL, ih]
  | bin k a b hk _ _ ih1 ih2 => simp [opE, Sm, SmL, ih1, ih2]

/-! ### Numbers -/
theorem rOk_mk {r : Rt} (h : rIn r) (h2 : Nat.gcd r.n.natAbs r.d.natAbs = 1) : rOk r = true := by simp [rOk, h, h2]
theorem rMake_ok {n d : Int} (h : (rMake n d).2 = 0) : rOk (rMake n d).1 = true := by
  unfold rMake at *
  split at h
  · simp at h
  · rename_i hd
    rw [if_neg hd]
    split at h
    · simp at h
    · rename_i r hr
      unfold low at hr
      split at hr
      · rename_i hle
        have hg : 0 < Nat.gcd n.natAbs d.natAbs := Nat.gcd_pos_of_pos_right _ (by omega)
        have hco : Nat.gcd (n.natAbs / Nat.gcd n.natAbs d.natAbs) (d.natAbs / Nat.gcd n.natAbs d.natAbs) = 1 := by rw [Nat.gcd_div (Nat.gcd_dvd_left _ _) (Nat.gcd_dvd_right _ _)]; exact Nat.div_self hg
        have hpos : 0 < d.natAbs / Nat.gcd n.natAbs d.natAbs := Nat.div_pos (Nat.le_of_dvd (by omega) (Nat.gcd_dvd_right _ _)) hg
        generalize n.natAbs / Nat.gcd n.natAbs d.natAbs = A at *
        generalize d.natAbs / Nat.gcd n.natAbs d.natAbs = B at *
        simp only [Option.some.injEq] at hr
        subst hr
        cases (decide (n < 0) != decide (d < 0)) with
        | true => exact rOk_mk (by simp only [rIn, if_true]; omega) (by simpa using hco)
        | false => exact rOk_mk (by simp only [rIn, Bool.false_eq_true, if_false]; omega) (by simpa using hco)
      · simp at hr
theorem rOp_ok {a b : Rt} {n d : Int} (h : (rOp a b n d).2 = 0) : rOk (rOp a b n d).1 = true := by
  unfold rOp at *
  split at h
  · rename_i e; rw [if_pos e]; exact rMake_ok h
  · simp at h
theorem okN_ok {a b r : Rt} {n d : Int} (h : okN (rOp a b n d) = some r) : rOk r = true := by
  unfold okN at h
  split at h
  · rename_i e
    simp only [Option.some.injEq] at h
    rw [← h]; exact rOp_ok e
  · simp at h
theorem powN_ok {a : Rt} : ∀ (n : Nat) (r s : Rt), rOk r = true → powN a n r = some s → rOk s = true
  | 0, r, s, hr, h => by simp only [powN, Option.some.injEq] at h; rw [← h]; exact hr
  | n + 1, r, s, hr, h => by
    simp only [powN] at h
    split at h
    · rename_i t ht
      exact powN_ok n t s (okN_ok ht) h
    · simp at h
theorem rOk_one {n : Int} (h : -1073741824 ≤ n ∧ n ≤ 1073741824) : rOk ⟨n, 1⟩ = true := by
  exact rOk_mk (by simp only [rIn]; omega) (Nat.gcd_one_right _)
theorem foldN_ok {k n : Int} {l : List Ex} {r : Rt} (h : foldN k n l = some r) : rOk r = true := by
  unfold foldN at h
  repeat' split at h
  all_goals first
    | exact okN_ok h
    | exact powN_ok _ _ _ (rOk_one (by omega)) h
    | simp at h
theorem VT_numE {n : Int} (h : -1073741824 ≤ n ∧ n ≤ 1073741824) : VT (numE n) := VT.num ⟨n, 1⟩ (rOk_one h)
end Go.Proofs.YtnijmbnkcmhfpaaGreatDoor

/-
  Simple forms and derivatives as plain functions on trees.
-/
namespace Go.Proofs.YtnijmbnkcmhfpaaGreatDoor
open Go Go.Sx
theorem op1_cases (k n : Int) (a : Ex) (ha : VT a) : (∃ r, rOk r = true ∧ op1 k n a = ratE r) ∨ op1 k n a = opE k n [a] ∨ (k = 8 ∧ n = 1 ∧ op1 k n a = a) ∨ (∃ x, VT x ∧ k = 7 ∧ a = opE 7 0 [x] ∧ op1 k n a = x) := by
  unfold op1
  cases hf : foldN k n [a] with
  | some r => exact .inl ⟨r, foldN_ok hf, rfl⟩
  | none =>
    simp only
    unfold sim1
    have one : ∃ r, rOk r = true ∧ numE 1 = ratE r := ⟨⟨1, 1⟩, rOk_one (by omega), rfl⟩
    have zero : ∃ r, rOk r = true ∧ numE 0 = ratE r := ⟨⟨0, 1⟩, rOk_one (by omega), rfl⟩
    by_cases h7 : k = 7
    · rw [if_pos h7]
      subst h7
      by_cases ha7 : a.k = 7
      · rw [if_pos ha7]
        cases ha with
        | num r hr => simp [ratE, Ex.k] at ha7
        | var s hs => simp [varE, Ex.k] at ha7
        | un k x hk hx =>
          have : k = 7 := ha7
          subst this
          exact .inr (.inr (.inr ⟨x, hx, rfl, rfl, rfl⟩))
        | pow m x h1 h2 hx => simp [opE, Ex.k] at ha7
        | bin k x y hk hx hy => have : k = 7 := ha7; unfold K2 at hk; omega
      · rw [if_neg ha7]; exact .inr (.inl rfl)
    · rw [if_neg h7]
      repeat' split
      all_goals first
        | exact .inl one
        | exact .inl zero
        | exact .inr (.inl rfl)
        | exact .inr (.inr (.inl ⟨‹_›, ‹_›, rfl⟩))
        | (subst k; exact .inr (.inl rfl))
theorem negS_eq (b : Ex) : negS b = op1 7 0 b := by
  unfold negS op1 sim1; simp
theorem op2_cases (k : Int) (a b : Ex) : (∃ r, rOk r = true ∧ op2 k a b = ratE r) ∨ op2 k a b = opE k 0 [a, b] ∨ op2 k a b = a ∨ op2 k a b = b ∨ (k = 4 ∧ op2 k a b = op1 7 0 b) := by
  unfold op2
  cases hf : foldN k 0 [a, b] with
  | some r => exact .inl ⟨r, foldN_ok hf, rfl⟩
  | none =>
    simp only
    unfold sim2
    have one : ∃ r, rOk r = true ∧ numE 1 = ratE r := ⟨⟨1, 1⟩, rOk_one (by omega), rfl⟩
    have zero : ∃ r, rOk r = true ∧ numE 0 = ratE r := ⟨⟨0, 1⟩, rOk_one (by omega), rfl⟩
    repeat' split
    all_goals first
      | exact .inl one
      | exact .inl zero
      | exact .inr (.inl rfl)
      | (subst k; exact .inr (.inl rfl))
      | exact .inr (.inr (.inl rfl))
      | exact .inr (.inr (.inr (.inl rfl)))
      | exact .inr (.inr (.inr (.inr ⟨‹_›, negS_eq b⟩)))
theorem VT_op1 {k n : Int} {a : Ex} (hk : (K1 k ∧ n = 0) ∨ (k = 8 ∧ 0 ≤ n ∧ n ≤ 16)) (ha : VT a) : VT (op1 k n a) := by
  rcases op1_cases k n a ha with ⟨r, hr, e⟩ | e | ⟨_, _, e⟩ | ⟨x, hx, _, _, e⟩ <;> rw [e]
  · exact VT.num r hr
  · rcases hk with ⟨hk, rfl⟩ | ⟨rfl, h1, h2⟩
    · exact VT.un k a hk ha
    · exact VT.pow n a h1 h2 ha
  · exact ha
  · exact hx
theorem VT_op2 {k : Int} {a b : Ex} (hk : K2 k) (ha : VT a) (hb : VT b) : VT (op2 k a b) := by
  rcases op2_cases k a b with ⟨r, hr, e⟩ | e | e | e | ⟨_, e⟩ <;> rw [e]
  · exact VT.num r hr
  · exact VT.bin k a b hk ha hb
  · exact ha
  · exact hb
  · exact VT_op1 (.inl ⟨.inl rfl, rfl⟩) hb
theorem dep_pos (e : Ex) : 1 ≤ depE e := by cases e; simp [depE]
theorem siz_pos (e : Ex) : 1 ≤ sizE e := by cases e; simp [sizE]
theorem dep_op1 (k n : Int) {a : Ex} (ha : VT a) : depE (op1 k n a) ≤ depE a + 1 := by
  have := dep_pos a
  rcases op1_cases k n a ha with ⟨r, hr, e⟩ | e | ⟨_, _, e⟩ | ⟨x, hx, _, ha', e⟩ <;> rw [e]
  · simp [ratE, depE, depL]
  · simp [opE, depE, depL]
  · omega
  · rw [ha']; simp [opE, depE, depL]; omega
theorem dep_op2 (k : Int) (a : Ex) {b : Ex} (hb : VT b) : depE (op2 k a b) ≤ max (depE a) (depE b) + 1 := by
  have := dep_pos a
  have := dep_op1 7 0 hb
  rcases op2_cases k a b with ⟨r, hr, e⟩ | e | e | e | ⟨_, e⟩ <;> rw [e]
  · simp [ratE, depE, depL]
  · simp [opE, depE, depL]
  · omega
  · omega
  · omega

/-! ### Simple forms -/
def opS (k n : Int) (l : List Ex) : Ex := match l with
  | [a] => op1 k n a
  | [a, b] => op2 k a b
  | l => opE k n l
mutual
def simE : Ex → Ex
  | .mk k q s p l => if k = 1 ∨ k = 2 then .mk k q s p l else opS k p (simL l)
def simL : List Ex → List Ex
  | [] => []
  | x :: l => simE x :: simL l
end
theorem sim_rat (r : Rt) : simE (ratE r) = ratE r := by simp [ratE, simE]
theorem sim_var (s : Bytes) : simE (varE s) = varE s := by simp [varE, simE]
theorem sim_one {k n : Int} (a : Ex) (h : k ≠ 1 ∧ k ≠ 2) : simE (opE k n [a]) = op1 k n (simE a) := by simp [opE, simE, simL, opS, h]
theorem sim_two {k : Int} (a b : Ex) (h : k ≠ 1 ∧ k ≠ 2) : simE (opE k 0 [a, b]) = op2 k (simE a) (simE b) := by simp [opE, simE, simL, opS, h]
theorem K1_ne {k : Int} (h : K1 k) : k ≠ 1 ∧ k ≠ 2 := by unfold K1 at h; omega
theorem K2_ne {k : Int} (h : K2 k) : k ≠ 1 ∧ k ≠ 2 := by unfold K2 at h; omega
theorem VT_sim {e : Ex} (h : VT e) : VT (simE e) := by
  induction h with
  | num r hr => rw [sim_rat]; exact VT.num r hr
  | var s hs => rw [sim_var]; exact VT.var s hs
  | un k a hk _ ih => rw [sim_one a (K1_ne hk)]; exact VT_op1 (.inl ⟨hk, rfl⟩) ih
  | pow n a h1 h2 _ ih => rw [sim_one a (by omega)]; exact VT_op1 (.inr ⟨rfl, h1, h2⟩) ih
  | bin k a b hk _ _ ih1 ih2 => rw [sim_two a b (K2_ne hk)]; exact VT_op2 hk ih1 ih2
theorem dep_sim {e : Ex} (h : VT e) : depE (simE e) ≤ depE e := by
  induction h with
  | num r hr => rw [sim_rat]; exact Nat.le_refl _
  | var s hs => rw [sim_var]; exact Nat.le_refl _
  | un k a hk ha ih =>
    rw [sim_one a (K1_ne hk)]
    have := dep_op1 k 0 (VT_sim ha)
    simp only [opE, depE, depL]; omega
  | pow n a h1 h2 ha ih =>
    rw [sim_one a (by omega)]
    have := dep_op1 8 n (VT_sim ha)
    simp only [opE, depE, depL]; omega
  | bin k a b hk ha hb ih1 ih2 =>
    rw [sim_two a b (K2_ne hk)]
    have := dep_op2 k (simE a) (VT_sim hb)
    simp only [opE, depE, depL]; omega

/-! ### Derivatives -/
def dif1 (k n : Int) (a x : Ex) : Ex :=
  if k = 7 then op1 7 0 x
  else if k = 8 then (if n = 0 then numE 0 else op2 5 (op2 5 (numE n) (op1 8 (n - 1) a)) x)
  else if k = 9 then op2 5 (op1 9 0 a) x
  else if k = 10 then op2 6 x a
  else if k = 11 then op2 5 (op1 12 0 a) x
  else if k = 12 then op1 7 0 (op2 5 (op1 11 0 a) x)
  else op2 6 x (op2 5 (numE 2) (op1 13 0 a))
def dif2 (k : Int) (a b x y : Ex) : Ex :=
  if k = 5 then op2 3 (op2 5 x b) (op2 5 a y)
  else if k = 6 then (if b.k = 1 then op2 6 x b else op2 6 (op2 4 (op2 5 x b) (op2 5 a y)) (op1 8 2 b))
  else op2 k x y
def dif (k p : Int) (l xs : List Ex) : Ex := match l, xs with
  | [a], [x] => dif1 k p a x
  | [a, b], [x, y] => dif2 k a b x y
  | _, _ => numE 0
mutual
def diffE (nm : Bytes) : Ex → Ex
  | .mk k _ s p l => if k = 1 then numE 0 else if k = 2 then (if s = nm then numE 1 else numE 0) else dif k p l (difL nm l)
def difL (nm : Bytes) : List Ex → List Ex
  | [] => []
  | x :: l => diffE nm x :: difL nm l
end
theorem diff_rat (nm : Bytes) (r : Rt) : diffE nm (ratE r) = numE 0 := by simp [ratE, diffE]
theorem diff_var (nm s : Bytes) : diffE nm (varE s) = if s = nm then numE 1 else numE 0 := by simp [varE, diffE]
theorem diff_one (nm : Bytes) {k n : Int} (a : Ex) (h : k ≠ 1 ∧ k ≠ 2) : diffE nm (opE k n [a]) = dif1 k n a (diffE nm a) := by simp [opE, diffE, difL, dif, h]
theorem diff_two (nm : Bytes) {k : Int} (a b : Ex) (h : k ≠ 1 ∧ k ≠ 2) : diffE nm (opE k 0 [a, b]) = dif2 k a b (diffE nm a) (diffE nm b) := by simp [opE, diffE, difL, dif, h]
theorem VT_dif1 {k n : Int} {a x : Ex} (hk : (K1 k ∧ n = 0) ∨ (k = 8 ∧ 0 ≤ n ∧ n ≤ 16)) (ha : VT a) (hx : VT x) : VT (dif1 k n a x) := by
  have two : ∀ k : Int, K2 k → ∀ a b, VT a → VT b → VT (op2 k a b) := fun k hk a b ha hb => VT_op2 hk ha hb
  have one : ∀ k : Int, K1 k → ∀ a, VT a → VT (op1 k 0 a) := fun k hk a ha => VT_op1 (.inl ⟨hk, rfl⟩) ha
  unfold dif1
  split
  · exact one 7 (by unfold K1; omega) x hx
  · split
    · split
      · exact VT_numE (by omega)
      · exact two 5 (by unfold K2; omega) _ _ (two 5 (by unfold K2; omega) _ _ (VT_numE (by unfold K1 at hk; omega)) (VT_op1 (.inr ⟨rfl, by unfold K1 at hk; omega, by unfold K1 at hk; omega⟩) ha)) hx
    · split
      · exact two 5 (by unfold K2; omega) _ _ (one 9 (by unfold K1; omega) _ ha) hx
      · split
        · exact two 6 (by unfold K2; omega) _ _ hx ha
        · split
          · exact two 5 (by unfold K2; omega) _ _ (one 12 (by unfold K1; omega) _ ha) hx
          · split
            · exact one 7 (by unfold K1; omega) _ (two 5 (by unfold K2; omega) _ _ (one 11 (by unfold K1; omega) _ ha) hx)
            · exact two 6 (by unfold K2; omega) _ _ hx (two 5 (by unfold K2; omega) _ _ (VT_numE (by omega)) (one 13 (by unfold K1; omega) _ ha))
theorem VT_dif2 {k : Int} {a b x y : Ex} (hk : K2 k) (ha : VT a) (hb : VT b) (hx : VT x) (hy : VT y) : VT (dif2 k a b x y) := by
  have two : ∀ k : Int, K2 k → ∀ a b, VT a → VT b → VT (op2 k a b) := fun k hk a b ha hb => VT_op2 hk ha hb
  unfold dif2
  split
  · exact two 3 (by unfold K2; omega) _ _ (two 5 (by unfold K2; omega) _ _ hx hb) (two 5 (by unfold K2; omega) _ _ ha hy)
  · split
    · split
      · exact two 6 (by unfold K2; omega) _ _ hx hb
      · exact two 6 (by unfold K2; omega) _ _ (two 4 (by unfold K2; omega) _ _ (two 5 (by unfold K2; omega) _ _ hx hb) (two 5 (by unfold K2; omega) _ _ ha hy)) (VT_op1 (.inr ⟨rfl, by omega, by omega⟩) hb)
    · exact two k hk _ _ hx hy
theorem VT_diff (nm : Bytes) {e : Ex} (h : VT e) : VT (diffE nm e) := by
  induction h with
  | num r hr => rw [diff_rat]; exact VT_numE (by omega)
  | var s hs => rw [diff_var]; split <;> exact VT_numE (by omega)
  | un k a hk ha ih => rw [diff_one nm a (K1_ne hk)]; exact VT_dif1 (.inl ⟨hk, rfl⟩) ha ih
  | pow n a h1 h2 ha ih => rw [diff_one nm a (by omega)]; exact VT_dif1 (.inr ⟨rfl, h1, h2⟩) ha ih
  | bin k a b hk ha hb ih1 ih2 => rw [diff_two nm a b (K2_ne hk)]; exact VT_dif2 hk ha hb ih1 ih2
theorem dep_num (n : Int) : depE (numE n) = 1 := by simp [numE, depE, depL]
theorem dep_dif1 {k n : Int} {a x : Ex} (hk : (K1 k ∧ n = 0) ∨ (k = 8 ∧ 0 ≤ n ∧ n ≤ 16)) (ha : VT a) (hx : VT x) : depE (dif1 k n a x) ≤ max (depE a) (depE x) + 3 := by
  have two : ∀ k : Int, K2 k → ∀ a b, VT a → VT b → VT (op2 k a b) := fun k hk a b ha hb => VT_op2 hk ha hb
  have one : ∀ k : Int, K1 k → ∀ a, VT a → VT (op1 k 0 a) := fun k hk a ha => VT_op1 (.inl ⟨hk, rfl⟩) ha
  have d0 := dep_num 0
  have p1 := dep_pos a
  have p2 := dep_pos x
  unfold dif1
  split
  · have := dep_op1 7 0 hx; omega
  · split
    · split
      · omega
      · have h1 := dep_op2 5 (op2 5 (numE n) (op1 8 (n - 1) a)) hx
        have hp : VT (op1 8 (n - 1) a) := VT_op1 (.inr ⟨rfl, by unfold K1 at hk; omega, by unfold K1 at hk; omega⟩) ha
        have h2 := dep_op2 5 (numE n) hp
        have h3 := dep_op1 8 (n - 1) ha
        have h4 := dep_num n
        omega
    · split
      · have h1 := dep_op2 5 (op1 9 0 a) hx
        have h2 := dep_op1 9 0 ha
        omega
      · split
        · have h1 := dep_op2 6 x ha; omega
        · split
          · have h1 := dep_op2 5 (op1 12 0 a) hx
            have h2 := dep_op1 12 0 ha
            omega
          · split
            · have h1 := dep_op1 7 0 (two 5 (by unfold K2; omega) _ _ (one 11 (by unfold K1; omega) _ ha) hx)
              have h2 := dep_op2 5 (op1 11 0 a) hx
              have h3 := dep_op1 11 0 ha
              omega
            · have h1 := dep_op2 6 x (two 5 (by unfold K2; omega) _ _ (VT_numE (n := 2) (by omega)) (one 13 (by unfold K1; omega) _ ha))
              have h2 := dep_op2 5 (numE 2) (one 13 (by unfold K1; omega) _ ha)
              have h3 := dep_op1 13 0 ha
              have h4 := dep_num 2
              omega
theorem dep_dif2 {k : Int} {a b x y : Ex} (ha : VT a) (hb : VT b) (hx : VT x) (hy : VT y) : depE (dif2 k a b x y) ≤ max (max (depE a) (depE b)) (max (depE x) (depE y)) + 3 := by
  have two : ∀ k : Int, K2 k → ∀ a b, VT a → VT b → VT (op2 k a b) := fun k hk a b ha hb => VT_op2 hk ha hb
  have h1 := dep_op2 5 x hb
  have h2 := dep_op2 5 a hy
  have t1 := two 5 (by unfold K2; omega) _ _ hx hb
  have t2 := two 5 (by unfold K2; omega) _ _ ha hy
  unfold dif2
  split
  · have := dep_op2 3 (op2 5 x b) t2; omega
  · split
    · split
      · have := dep_op2 6 x hb; omega
      · have h3 := dep_op2 4 (op2 5 x b) t2
        have h4 := dep_op2 6 (op2 4 (op2 5 x b) (op2 5 a y)) (VT_op1 (k := 8) (n := 2) (.inr ⟨rfl, by omega, by omega⟩) hb)
        have h5 := dep_op1 8 2 hb
        omega
    · have := dep_op2 k x hy; omega
theorem dep_diff (nm : Bytes) {e : Ex} (h : VT e) : depE (diffE nm e) ≤ 3 * depE e := by
  induction h with
  | num r hr => rw [diff_rat, dep_num]; simp [ratE, depE]; omega
  | var s hs => rw [diff_var]; split <;> rw [dep_num] <;> simp [varE, depE] <;> omega
  | un k a hk ha ih =>
    rw [diff_one nm a (K1_ne hk)]
    have := dep_dif1 (.inl ⟨hk, rfl⟩) ha (VT_diff nm ha)
    simp only [opE, depE, depL]; omega
  | pow n a h1 h2 ha ih =>
    rw [diff_one nm a (by omega)]
    have := dep_dif1 (.inr ⟨rfl, h1, h2⟩) ha (VT_diff nm ha)
    simp only [opE, depE, depL]; omega
  | bin k a b hk ha hb ih1 ih2 =>
    rw [diff_two nm a b (K2_ne hk)]
    have := dep_dif2 (k := k) ha hb (VT_diff nm ha) (VT_diff nm hb)
    simp only [opE, depE, depL]; omega
end Go.Proofs.YtnijmbnkcmhfpaaGreatDoor

/-
  Trees that are compared, looked at, counted: plain functions.
-/
namespace Go.Proofs.YtnijmbnkcmhfpaaGreatDoor
open Go Go.Sx
def zeroE : Ex := .mk 0 ⟨0, 0⟩ [] 0 []
mutual
def sameE : Ex → Ex → Bool
  | .mk k q s p l, b => (k == b.k) && ((q.n == b.q.n) && (q.d == b.q.d)) && (s == b.s) && (p == b.p) && decide (l.length ≤ 3) && sameL l b.l
def sameL : List Ex → List Ex → Bool
  | [], [] => true
  | x :: l, y :: m => sameE x y && sameL l m
  | [], _ :: _ => false
  | _ :: _, [] => false
end
theorem same_refl {e : Ex} (h : VT e) : sameE e e = true := by
  induction h with
  | num r hr => simp [ratE, sameE, sameL, Ex.k, Ex.q, Ex.s, Ex.p, Ex.l]
  | var s hs => simp [varE, sameE, sameL, Ex.k, Ex.q, Ex.s, Ex.p, Ex.l]
  | un k a hk _ ih => simp [opE, sameE, sameL, Ex.k, Ex.q, Ex.s, Ex.p, Ex.l, ih]
  | pow n a h1 h2 _ ih => simp [opE, sameE, sameL, Ex.k, Ex.q, Ex.s, Ex.p, Ex.l, ih]
  | bin k a b hk _ _ ih1 ih2 => simp [opE, sameE, sameL, Ex.k, Ex.q, Ex.s, Ex.p, Ex.l, ih1, ih2]
theorem same_zero : sameE zeroE zeroE = true := by simp [zeroE, sameE, sameL, Ex.k, Ex.q, Ex.s, Ex.p, Ex.l]
theorem sameL_len : ∀ {l m : List Ex}, l.length ≠ m.length → sameL l m = false
  | [], [], h => by simp at h
  | [], _ :: _, _ => rfl
  | _ :: _, [], _ => rfl
  | x :: l, y :: m, h => by
    simp only [sameL]
    rw [sameL_len (by simpa using h)]; simp
mutual
def larE : Ex → Nat → Bool
  | .mk _ _ s _ l, d => decide (30 < d) || (decide (3 < l.length) || (decide (100 < s.length) || larL l (d + 1)))
def larL : List Ex → Nat → Bool
  | [], _ => false
  | x :: l, d => larE x d || larL l d
end
mutual
/-- The nodes, counted up to a limit. -/
def szR (most : Nat) : Ex → Nat
  | .mk _ _ _ _ l => szRL most l 1
def szRL (most : Nat) : List Ex → Nat → Nat
  | [], n => n
  | x :: l, n => if n ≤ most then szRL most l (n + szR most x) else n
end
mutual
theorem szR_iff (most : Nat) (hm : 1 ≤ most) : ∀ e, (szR most e ≤ most ↔ sizE e ≤ most) ∧ (sizE e ≤ most → szR most e = sizE e)
  | .mk k q s p l => by
    have := szRL_iff most hm l 1
    simp only [szR, sizE]
    exact ⟨by omega, by omega⟩
theorem szRL_iff (most : Nat) (hm : 1 ≤ most) : ∀ l n, (szRL most l n ≤ most ↔ n + sizL l ≤ most) ∧ (n + sizL l ≤ most → szRL most l n = n + sizL l)
  | [], n => by simp [szRL, sizL]
  | x :: l, n => by
    have h1 := szR_iff most hm x
    simp only [szRL, sizL]
    split
    · have h2 := szRL_iff most hm l (n + szR most x)
      omega
    · omega
end
mutual
theorem szR_le : ∀ e, szR 200 e ≤ 201 * depE e
  | .mk k q s p l => by
    have := szRL_le l 1
    simp only [szR, depE]; omega
theorem szRL_le : ∀ l n, szRL 200 l n ≤ max n (200 + 201 * depL l)
  | [], n => by simp only [szRL]; omega
  | x :: l, n => by
    have h1 := szR_le x
    simp only [szRL, depL]
    split
    · have h2 := szRL_le l (n + szR 200 x); omega
    · omega
end
/-- Not too large. -/
def fitB (e : Ex) : Bool := decide (depE e ≤ 20) && decide (szR 200 e ≤ 200)
theorem fit_ok {e : Ex} (h : VT e) : fitB e = okT e := by
  rw [Bool.eq_iff_iff, okT_iff]
  have := (szR_iff 200 (by omega) e).1
  simp only [fitB, Bool.and_eq_true, decide_eq_true_eq]
  constructor
  · rintro ⟨h1, h2⟩; exact ⟨VT_VS h, h1, this.1 h2⟩
  · rintro ⟨_, h1, h2⟩; exact ⟨h1, this.2 h2⟩
/-- What Diff answers. -/
def dfE (e : Ex) (nm : Bytes) : Ex × Int := if okT e && nameB nm then (if okT (diffE nm (simE e)) then (diffE nm (simE e), 0) else (zeroE, 5)) else (zeroE, 1)
def dfR (e : Ex) (nm : Bytes) : Ex × Int := if fitB (diffE nm (simE e)) then (diffE nm (simE e), 0) else (zeroE, 5)
theorem dfR_eq {e : Ex} {nm : Bytes} (he : okT e = true) (hn : nameB nm = true) : dfE e nm = dfR e nm := by
  simp only [dfE, dfR, he, hn, fit_ok (VT_diff nm (VT_sim (okT_VT he)))]; rfl
end Go.Proofs.YtnijmbnkcmhfpaaGreatDoor
