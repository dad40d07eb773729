/-
  The reference's Put: the first place where an operation stands, plain.
-/
import Derived.Test.YtmcdnbmamoggoaaGreatQTf
set_option linter.unusedVariables false
set_option linter.unusedSimpArgs false
namespace Go.Proofs.YtmcdnbmamoggoaaGreat
open Go Go.Sx
theorem ixP_none {α : Type} {p : α → Bool} : ∀ {l : List α} (i : Nat), (∀ y ∈ l, p y = false) → ixP p l i = -1
  | [], _, _ => rfl
  | y :: l, i, h => by
    simp only [ixP, if_neg (by rw [h y List.mem_cons_self]; simp : ¬ p y = true)]
    exact ixP_none (i + 1) fun z hz => h z (List.mem_cons_of_mem _ hz)
theorem ixP_at {α : Type} {p : α → Bool} {x : α} (hp : ∀ y, p y = true ↔ y = x) : ∀ {l : List α} {j : Nat} (i : Nat), l.Nodup → l[j]? = some x → ixP p l i = i + j
  | [], j, _, _, h => by simp at h
  | y :: l, j, i, hn, h => by
    rw [List.nodup_cons] at hn
    cases j with
    | zero =>
      simp only [List.getElem?_cons_zero, Option.some.injEq] at h
      simp only [ixP, if_pos ((hp y).2 h)]; simp
    | succ j =>
      simp only [List.getElem?_cons_succ] at h
      have hy : ¬ p y = true := fun e => hn.1 ((hp y).1 e ▸ List.mem_of_getElem? h)
      simp only [ixP, if_neg hy]
      rw [ixP_at hp (i + 1) hn.2 h]; omega
def eqO (x y : TOp) : Bool := y == x
theorem eqO_iff (x y : TOp) : eqO x y = true ↔ y = x := beq_iff_eq (α := TOp)
/-- The reference's Put. -/
def putR (ins : Int) (x : TOp) (ops : List TOp) : List TOp × Int :=
  if 0 ≤ ixP (eqO x) ops 0 then (ops, ins + ixP (eqO x) ops 0) else (ops ++ [x], ins + ops.length)
theorem putR_putS {ins : Int} {x : TOp} {st : BS} (h : BInv ins st) (hn : st.1.Nodup) : putR ins x st.1 = ((putS ins x st).2.1, (putS ins x st).1) := by
  unfold putR putS
  cases hh : mhas .op x st.2 with
  | true =>
    obtain ⟨j, h1, h2⟩ := h.2.1 x hh
    have e := ixP_at (eqO_iff x) 0 hn h1
    rw [e, if_pos (by omega)]
    simp only [if_true, h2]
    simp
  | false =>
    have e : ixP (eqO x) st.1 0 = -1 := ixP_none 0 fun y hy => by
      cases e : eqO x y with
      | false => rfl
      | true =>
        rw [(eqO_iff x y).1 e] at hy
        rw [h.2.2 x hy] at hh; cases hh
    rw [e, if_neg (by omega)]
    simp
end Go.Proofs.YtmcdnbmamoggoaaGreat

/-
  The reference's Compile computes the tape: plain functions.
-/
namespace Go.Proofs.YtmcdnbmamoggoaaGreat
open Go Go.Sx
mutual
/-- The reference's count. -/
def rcE : Ex → Nat → Nat
  | .mk _ _ _ _ _, 0 => 1048576
  | .mk k q s p l, n + 1 => if nodeB (.mk k q s p l) = true then rcL l n 1 else 1048576
def rcL : List Ex → Nat → Nat → Nat
  | [], _, a => a
  | x :: l, n, a => if a ≤ 200 then rcL l n (a + rcE x n) else a
end
mutual
theorem rcE_le : ∀ (e : Ex) (n : Nat), rcE e n ≤ 1048576 + 200 * n
  | .mk _ _ _ _ _, 0 => by simp [rcE]
  | .mk k q s p l, n + 1 => by
    have h := rcL_le l n 1
    simp only [rcE]
    split <;> omega
theorem rcL_le : ∀ (l : List Ex) (n a : Nat), rcL l n a ≤ max a (1048776 + 200 * n)
  | [], n, a => by simp only [rcL]; omega
  | x :: l, n, a => by
    have h1 := rcE_le x n
    have h2 := rcL_le l n (a + rcE x n)
    simp only [rcL]
    split <;> omega
end
theorem depE_pos (e : Ex) : 1 ≤ depE e := by cases e; simp [depE]
mutual
theorem rcE_iff : ∀ (e : Ex) (n : Nat), (rcE e n ≤ 200 ↔ VS e ∧ depE e ≤ n ∧ sizE e ≤ 200) ∧ (rcE e n ≤ 200 → rcE e n = sizE e)
  | .mk k q s p l, 0 => by
    have h := depE_pos (.mk k q s p l)
    simp only [rcE]
    exact ⟨⟨fun h1 => by omega, fun h1 => by omega⟩, fun h1 => by omega⟩
  | .mk k q s p l, n + 1 => by
    have ih := rcL_iff l n 1
    simp only [rcE, VS, depE, sizE]
    by_cases h : nodeB (.mk k q s p l) = true
    · rw [if_pos h]
      refine ⟨⟨fun h1 => ?_, fun h1 => ?_⟩, fun h1 => ?_⟩
      · have := ih.1.1 h1; exact ⟨⟨h, this.1⟩, by omega, by omega⟩
      · exact ih.1.2 ⟨h1.1.2, by omega, by omega⟩
      · have := ih.2 h1; omega
    · rw [if_neg h]
      exact ⟨⟨fun h1 => by omega, fun h1 => absurd h1.1.1 h⟩, fun h1 => by omega⟩
theorem rcL_iff : ∀ (l : List Ex) (n a : Nat), (rcL l n a ≤ 200 ↔ VSL l ∧ depL l ≤ n ∧ a + sizL l ≤ 200) ∧ (rcL l n a ≤ 200 → rcL l n a = a + sizL l)
  | [], n, a => by
    simp only [rcL, VSL, depL, sizL]
    exact ⟨⟨fun h => ⟨trivial, by omega, by omega⟩, fun h => by omega⟩, fun _ => rfl⟩
  | x :: l, n, a => by
    have i1 := rcE_iff x n
    have i2 := rcL_iff l n (a + rcE x n)
    simp only [rcL, VSL, depL, sizL]
    by_cases h : a ≤ 200
    · rw [if_pos h]
      refine ⟨⟨fun h1 => ?_, fun h1 => ?_⟩, fun h1 => ?_⟩
      · have h2 := i2.1.1 h1
        have h3 := i1.1.1 (by omega)
        have h4 := i1.2 (by omega)
        exact ⟨⟨h3.1, h2.1⟩, by omega, by omega⟩
      · have h3 := i1.1.2 ⟨h1.1.1, by omega, by omega⟩
        have h4 := i1.2 h3
        exact i2.1.2 ⟨h1.1.2, by omega, by omega⟩
      · have h2 := i2.1.1 h1
        have h4 := i1.2 (by omega)
        have h5 := i2.2 h1
        omega
    · rw [if_neg h]
      exact ⟨⟨fun h1 => absurd h1 h, fun h1 => by omega⟩, fun h1 => absurd h1 h⟩
end
theorem rc_okT (e : Ex) : decide ((rcE e 20 : Int) ≤ 200) = okT e := by
  rw [Bool.eq_iff_iff, decide_eq_true_eq, okT_iff, ← (rcE_iff e 20).1]; omega
/-! ### Names -/
/-- A name's first place is another one. -/
def duS : List Bytes → Nat → List Bytes → Bool
  | ns, i, n :: l => decide (ixP (eqS n) ns 0 ≠ i) || duS ns (i + 1) l
  | _, _, [] => false
theorem ixP_app {α : Type} (p : α → Bool) : ∀ (l m : List α) (i : Nat), l.any p = false → ixP p (l ++ m) i = ixP p m (i + l.length)
  | [], m, i, _ => rfl
  | x :: l, m, i, h => by
    rw [List.any_cons, Bool.or_eq_false_iff] at h
    simp only [List.cons_append, ixP, if_neg (by rw [h.1]; simp : ¬ p x = true), List.length_cons]
    rw [ixP_app p l m (i + 1) h.2]; congr 1; omega
theorem ixP_lt {α : Type} (p : α → Bool) : ∀ (l m : List α) (i : Nat), l.any p = true → ixP p (l ++ m) i < i + l.length
  | [], m, i, h => by simp at h
  | x :: l, m, i, h => by
    simp only [List.cons_append, ixP, List.length_cons]
    by_cases hx : p x = true
    · rw [if_pos hx]; omega
    · rw [if_neg hx]
      have h : l.any p = true := by simpa [hx] using h
      have := ixP_lt p l m (i + 1) h
      omega
theorem duS_twS (ns : List Bytes) : ∀ (l : List Bytes) (i : Nat), ns.drop i = l → duS ns i l = twS ns i l
  | [], _, _ => rfl
  | n :: l, i, h => by
    have hi : i < ns.length := by
      by_cases h2 : i < ns.length
      · exact h2
      · rw [List.drop_of_length_le (by omega)] at h; cases h
    have hd : ns.drop (i + 1) = l := by rw [← List.tail_drop, h, List.tail_cons]
    have hs : ns = ns.take i ++ n :: l := by rw [← h, List.take_append_drop]
    simp only [duS, twS, duS_twS ns l (i + 1) hd]
    congr 1
    have hl : (ns.take i).length = i := by rw [List.length_take]; omega
    cases hb : (ns.take i).any (eqS n) with
    | true =>
      have := ixP_lt (eqS n) (ns.take i) (n :: l) 0 hb
      rw [← hs, hl] at this
      exact decide_eq_true (by omega)
    | false =>
      have := ixP_app (eqS n) (ns.take i) (n :: l) 0 hb
      rw [← hs, hl] at this
      refine decide_eq_false fun hn => hn ?_
      rw [this]; simp [ixP, eqS]
mutual
/-- All variables are among the names. -/
def knE (ns : List Bytes) : Ex → Bool
  | .mk k _ s _ l => !(decide (k = 2) && decide (ixP (eqS s) ns 0 < 0)) && knL ns l
def knL (ns : List Bytes) : List Ex → Bool
  | [] => true
  | x :: l => knE ns x && knL ns l
end
theorem ixP_mem {ns : List Bytes} {s : Bytes} : ixP (eqS s) ns 0 < 0 ↔ ¬ s ∈ ns := by
  have h := ixP_iff (eqS s) ns 0
  have h2 : ns.any (eqS s) = true ↔ s ∈ ns := by
    rw [List.any_eq_true]
    constructor
    · rintro ⟨x, hx, he⟩
      have : s = x := by simpa [eqS] using he
      rw [this]; exact hx
    · intro hs; exact ⟨s, hs, by simp [eqS]⟩
  rw [← h2, ← h]; omega
mutual
theorem knE_iff {ns : List Bytes} : ∀ e : Ex, knE ns e = true ↔ ∀ y ∈ preE e, y.k = 2 → y.s ∈ ns
  | .mk k q s p l => by
    have ih := knL_iff (ns := ns) l
    simp only [knE, preE, Bool.and_eq_true, Bool.not_eq_true', Bool.and_eq_false_iff, decide_eq_false_iff_not, ixP_mem, Classical.not_not, ih]
    constructor
    · rintro ⟨h1, h2⟩ y hy hk
      rcases List.mem_cons.1 hy with rfl | hy
      · rcases h1 with h1 | h1
        · exact absurd hk h1
        · exact h1
      · exact h2 y hy hk
    · intro h
      refine ⟨?_, fun y hy hk => h y (List.mem_cons_of_mem _ hy) hk⟩
      by_cases hk : k = 2
      · exact .inr (h _ List.mem_cons_self hk)
      · exact .inl hk
theorem knL_iff {ns : List Bytes} : ∀ l : List Ex, knL ns l = true ↔ ∀ y ∈ preL l, y.k = 2 → y.s ∈ ns
  | [] => by simp [knL, preL]
  | x :: l => by
    have h1 := knE_iff (ns := ns) x
    have h2 := knL_iff (ns := ns) l
    simp only [knL, preL, Bool.and_eq_true, h1, h2, List.mem_append]
    constructor
    · rintro ⟨a, b⟩ y (hy | hy) hk
      · exact a y hy hk
      · exact b y hy hk
    · intro h
      exact ⟨fun y hy hk => h y (.inl hy) hk, fun y hy hk => h y (.inr hy) hk⟩
end
/-! ### Nodes -/
def setAB (i : Nat) (x : TOp) (k : Int) : TOp := if i = 0 then ⟨x.k, k, x.b, x.n, x.c⟩ else ⟨x.k, x.a, k, x.n, x.c⟩
mutual
/-- The reference's node: the operations, the number, whether all variables are known. -/
def ndR (ins : Int) (ns : List Bytes) : Ex → List TOp → List TOp × Int × Bool
  | .mk k q s p l, ops =>
    if k = 2 then (ops, if 0 ≤ ixP (eqS s) ns 0 then ixP (eqS s) ns 0 else 0, decide (0 ≤ ixP (eqS s) ns 0)) else
    match ndRL ins ns l ops 0 ⟨k, 0, 0, p, if k = 1 then q else ⟨0, 0⟩⟩ with
    | (some b, ops', _) => (ops', 0, b)
    | (none, ops', x) => ((putR ins x ops').1, (putR ins x ops').2, true)
def ndRL (ins : Int) (ns : List Bytes) : List Ex → List TOp → Nat → TOp → Option Bool × List TOp × TOp
  | [], ops, _, x => (none, ops, x)
  | e :: l, ops, i, x => if (ndR ins ns e ops).2.2 = false ∨ 200 < (ndR ins ns e ops).1.length then (some (ndR ins ns e ops).2.2, (ndR ins ns e ops).1, x)
    else ndRL ins ns l (ndR ins ns e ops).1 (i + 1) (setAB i x (ndR ins ns e ops).2.1)
end
theorem putR_len (ins : Int) (x : TOp) (ops : List TOp) : (putR ins x ops).1.length ≤ ops.length + 1 := by
  unfold putR; split <;> simp
mutual
theorem ndR_len (ins : Int) (ns : List Bytes) : ∀ (e : Ex) (ops : List TOp), ops.length ≤ 200 → (ndR ins ns e ops).1.length ≤ 201
  | .mk k q s p l, ops, h => by
    have h1 := ndRL_len ins ns l ops 0 ⟨k, 0, 0, p, if k = 1 then q else ⟨0, 0⟩⟩ h
    simp only [ndR]
    split
    · simp only; omega
    · split
      · rename_i h2; rw [h2] at h1; exact h1.1
      · rename_i h2; rw [h2] at h1
        have h3 := h1.2 rfl
        simp only at h3 ⊢
        exact Nat.le_trans (putR_len _ _ _) (by omega)
theorem ndRL_len (ins : Int) (ns : List Bytes) : ∀ (l : List Ex) (ops : List TOp) (i : Nat) (x : TOp), ops.length ≤ 200 → (ndRL ins ns l ops i x).2.1.length ≤ 201 ∧ ((ndRL ins ns l ops i x).1 = none → (ndRL ins ns l ops i x).2.1.length ≤ 200)
  | [], ops, i, x, h => by simp only [ndRL]; exact ⟨by omega, fun _ => h⟩
  | e :: l, ops, i, x, h => by
    have h1 := ndR_len ins ns e ops h
    simp only [ndRL]
    split
    · exact ⟨h1, fun h2 => by simp at h2⟩
    · exact ndRL_len ins ns l _ _ _ (by omega)
end
theorem put_ge (ins : Int) (x : TOp) (s : BS) : s.1.length ≤ (putS ins x s).2.1.length := by
  unfold putS; split <;> simp
/-- The reference's node does what Compile's does, or has too many operations. -/
def NdR (ns : List Bytes) (e : Ex) (st : BS) : Prop :=
  ((ndE ns.length ns e st).2.1.length ≤ 200 → ndR ns.length ns e st.1 = ((ndE ns.length ns e st).2.1, (ndE ns.length ns e st).1, true)) ∧
  (200 < (ndE ns.length ns e st).2.1.length → 200 < (ndR ns.length ns e st.1).1.length ∧ (ndR ns.length ns e st.1).2.2 = true)
theorem put_nd {ns : List Bytes} {x : TOp} {st : BS} {e : Ex} {ops : List TOp} (hi : BInv ns.length st) (hn : st.1.Nodup) (h1 : ndR ns.length ns e ops = ((putR ns.length x st.1).1, (putR ns.length x st.1).2, true)) :
    ((putS ns.length x st).2.1.length ≤ 200 → ndR ns.length ns e ops = ((putS ns.length x st).2.1, (putS ns.length x st).1, true)) ∧ (200 < (putS ns.length x st).2.1.length → 200 < (ndR ns.length ns e ops).1.length ∧ (ndR ns.length ns e ops).2.2 = true) := by
  rw [h1, putR_putS hi hn]
  exact ⟨fun _ => rfl, fun h => ⟨h, rfl⟩⟩
theorem ndR_law {ns : List Bytes} {e : Ex} (h : VT e) : (∀ y ∈ preE e, y.k = 2 → y.s ∈ ns) → ∀ {st : BS}, BInv ns.length st → st.1.Nodup → st.1.length ≤ 200 → NdR ns e st := by
  have hone : ∀ {k n : Int} {a : Ex} {st : BS}, k ≠ 1 → k ≠ 2 → NdR ns a st → BInv ns.length (ndE ns.length ns a st).2 → (ndE ns.length ns a st).2.1.Nodup → NdR ns (opE k n [a]) st := fun {k n a st} h1 h2 ih hi hn => by
    have e1 : ndE ns.length ns (opE k n [a]) st = putS ns.length ⟨k, (ndE ns.length ns a st).1, 0, n, ⟨0, 0⟩⟩ (ndE ns.length ns a st).2 := by simp [opE, ndE, ndL, at0, at1, h2]
    have hg := put_ge ns.length ⟨k, (ndE ns.length ns a st).1, 0, n, ⟨0, 0⟩⟩ (ndE ns.length ns a st).2
    unfold NdR
    rw [e1]
    by_cases hA : (ndE ns.length ns a st).2.1.length ≤ 200
    · refine put_nd hi hn ?_
      have ih := ih.1 hA
      simp only [opE, ndR, ndRL, if_neg h2, if_neg h1, ih]
      rw [if_neg (by simp only [Bool.true_eq_false, false_or]; omega)]
      rfl
    · refine ⟨fun h => by omega, fun _ => ?_⟩
      obtain ⟨i1, i2⟩ := ih.2 (by omega)
      simp only [opE, ndR, ndRL, if_neg h2]
      rw [if_pos (.inr i1)]
      exact ⟨i1, i2⟩
  induction h with
  | num r hr =>
    intro _ st hi hn hs
    have e1 : ndE ns.length ns (ratE r) st = putS ns.length ⟨1, 0, 0, 0, r⟩ st := by simp [ratE, ndE, ndL, at0, at1]
    unfold NdR
    rw [e1]
    exact put_nd hi hn (by simp [ratE, ndR, ndRL])
  | var s hs =>
    intro hv st hi hn hl
    have hm : s ∈ ns := hv (varE s) (by simp [varE, preE]) rfl
    have hx : 0 ≤ ixP (eqS s) ns 0 := by
      have := (ixP_mem (ns := ns) (s := s)).1
      by_cases h : ixP (eqS s) ns 0 < 0
      · exact absurd hm (this h)
      · omega
    have e1 : ndE ns.length ns (varE s) st = (ixP (eqS s) ns 0, st) := by simp [varE, ndE]
    unfold NdR
    rw [e1]
    refine ⟨fun _ => ?_, fun h => by simp only at h; omega⟩
    simp [varE, ndR, hx]
  | un k a hk ha ih =>
    intro hv st hi hn hl
    have hva : ∀ y ∈ preE a, y.k = 2 → y.s ∈ ns := fun y hy => hv y (by simp only [opE, preE, preL, List.append_nil]; exact List.mem_cons_of_mem _ hy)
    exact hone (K1_ne hk).1 (K1_ne hk).2 (ih hva hi hn hl) (nd_law ha hva hi).1 (nd_used ha hva hi hn).1
  | pow n a h0 h16 ha ih =>
    intro hv st hi hn hl
    have hva : ∀ y ∈ preE a, y.k = 2 → y.s ∈ ns := fun y hy => hv y (by simp only [opE, preE, preL, List.append_nil]; exact List.mem_cons_of_mem _ hy)
    exact hone (by omega) (by omega) (ih hva hi hn hl) (nd_law ha hva hi).1 (nd_used ha hva hi hn).1
  | bin k a b hk ha hb ih1 ih2 =>
    intro hv st hi hn hl
    have e1 : ndE ns.length ns (opE k 0 [a, b]) st = putS ns.length ⟨k, (ndE ns.length ns a st).1, (ndE ns.length ns b (ndE ns.length ns a st).2).1, 0, ⟨0, 0⟩⟩ (ndE ns.length ns b (ndE ns.length ns a st).2).2 := by simp [opE, ndE, ndL, at0, at1, (K2_ne hk).2]
    have hva : ∀ y ∈ preE a, y.k = 2 → y.s ∈ ns := fun y hy => hv y (by simp only [opE, preE, preL, List.append_nil]; exact List.mem_cons_of_mem _ (List.mem_append_left _ hy))
    have hvb : ∀ y ∈ preE b, y.k = 2 → y.s ∈ ns := fun y hy => hv y (by simp only [opE, preE, preL, List.append_nil]; exact List.mem_cons_of_mem _ (List.mem_append_right _ hy))
    have ha1 := nd_law ha hva hi
    have ha2 := (nd_used ha hva hi hn).1
    obtain ⟨hb1, ⟨tl, hb2⟩, _⟩ := nd_law hb hvb ha1.1
    have hb3 := (nd_used hb hvb ha1.1 ha2).1
    have ih1 := ih1 hva hi hn hl
    have hg := put_ge ns.length ⟨k, (ndE ns.length ns a st).1, (ndE ns.length ns b (ndE ns.length ns a st).2).1, 0, ⟨0, 0⟩⟩ (ndE ns.length ns b (ndE ns.length ns a st).2).2
    have hg2 : (ndE ns.length ns a st).2.1.length ≤ (ndE ns.length ns b (ndE ns.length ns a st).2).2.1.length := by rw [hb2, List.length_append]; omega
    unfold NdR
    rw [e1]
    by_cases hA : (ndE ns.length ns a st).2.1.length ≤ 200
    · have ih2 := ih2 hvb ha1.1 ha2 hA
      have ih1 := ih1.1 hA
      by_cases hB : (ndE ns.length ns b (ndE ns.length ns a st).2).2.1.length ≤ 200
      · refine put_nd hb1 hb3 ?_
        have ih2 := ih2.1 hB
        simp only [opE, ndR, ndRL, if_neg (K2_ne hk).2, if_neg (K2_ne hk).1, ih1]
        rw [if_neg (by simp only [Bool.true_eq_false, false_or]; omega), ih2]
        rw [if_neg (by simp only [Bool.true_eq_false, false_or]; omega)]
        rfl
      · refine ⟨fun h => by omega, fun _ => ?_⟩
        obtain ⟨i1, i2⟩ := ih2.2 (by omega)
        simp only [opE, ndR, ndRL, if_neg (K2_ne hk).2, ih1]
        rw [if_neg (by simp only [Bool.true_eq_false, false_or]; omega), if_pos (.inr i1)]
        exact ⟨i1, i2⟩
    · refine ⟨fun h => by omega, fun _ => ?_⟩
      obtain ⟨i1, i2⟩ := ih1.2 (by omega)
      simp only [opE, ndR, ndRL, if_neg (K2_ne hk).2]
      rw [if_pos (.inr i1)]
      exact ⟨i1, i2⟩
/-! ### Compile -/
/-- The reference's loop over the expressions. -/
def lpR (ins : Int) (ns : List Bytes) : List Ex → List TOp → List Int → Option (List TOp × List Int)
  | [], ops, outs => some (ops, outs)
  | e :: l, ops, outs => if 200 < (ndR ins ns e ops).1.length then none else lpR ins ns l (ndR ins ns e ops).1 (outs ++ [(ndR ins ns e ops).2.1])
theorem lpR_law {ns : List Bytes} : ∀ (l : List Ex), (∀ x ∈ l, VT x ∧ ∀ y ∈ preE x, y.k = 2 → y.s ∈ ns) → ∀ {st : BS} (outs : List Int), BInv ns.length st → st.1.Nodup → st.1.length ≤ 200 →
    lpR ns.length ns l st.1 outs = if 200 < (ndL ns.length ns l st).2.1.length then none else some ((ndL ns.length ns l st).2.1, outs ++ (ndL ns.length ns l st).1)
  | [], _, st, outs, _, _, h => by
    simp only [lpR, ndL, List.append_nil]
    exact (if_neg (by omega)).symm
  | x :: l, hl, st, outs, hi, hn, h => by
    obtain ⟨hx1, hx2⟩ := hl x List.mem_cons_self
    have ih := ndR_law hx1 hx2 hi hn h
    have a1 := nd_law hx1 hx2 hi
    have a2 := (nd_used hx1 hx2 hi hn).1
    obtain ⟨b1, ⟨tl, b2⟩, b3⟩ := ndL_law l (fun y hy => hl y (List.mem_cons_of_mem _ hy)) a1.1
    simp only [lpR, ndL]
    by_cases hA : (ndE ns.length ns x st).2.1.length ≤ 200
    · have e1 := ih.1 hA
      rw [e1]
      simp only
      rw [if_neg (by omega), lpR_law l (fun y hy => hl y (List.mem_cons_of_mem _ hy)) _ a1.1 a2 hA, List.append_assoc]
      rfl
    · have e1 := (ih.2 (by omega)).1
      rw [if_pos e1]
      exact (if_pos (by rw [b2, List.length_append]; omega)).symm
/-- The reference's Compile. -/
def cpR (l : List Ex) (ns : List Bytes) : Tp × Int :=
  if l.any badE = true ∨ ns.any badN = true then (tp0, 1) else if 8 < ns.length ∨ 200 < l.length then (tp0, 5) else if duS ns 0 ns = true then (tp0, 8) else if l.any (fun e => !knE ns e) = true then (tp0, 7) else
  match lpR ns.length ns l [] [] with
  | none => (tp0, 5)
  | some (ops, outs) => (⟨ns.length, ops, outs⟩, 0)
theorem cpR_cpE (l : List Ex) (ns : List Bytes) : cpR l ns = cpE l ns := by
  unfold cpR cpE
  split
  · rfl
  rename_i c1
  split
  · rfl
  rename_i c2
  rw [duS_twS ns ns 0 rfl]
  show (if twB ns = true then _ else _) = _
  split
  · rfl
  rename_i c3
  have hok : ∀ x ∈ l, okT x = true := fun x hx => by
    have c1 : l.any badE = false := by
      cases e : l.any badE
      · rfl
      · exact absurd (.inl e) c1
    have := (List.any_eq_false.1 c1) x hx
    simpa [badE] using this
  have hkn : (l.any fun e => !knE ns e) = l.any (newE ns) := by
    rw [Bool.eq_iff_iff, List.any_eq_true, List.any_eq_true]
    have hk : ∀ x ∈ l, (!knE ns x) = true ↔ newE ns x = true := fun x hx => by
      have h1 := knE_iff (ns := ns) x
      have h2 := new_ok (ns := ns) (hok x hx)
      cases h3 : knE ns x with
      | true => rw [h3] at h1; rw [h2.2 (h1.1 rfl)]; simp
      | false =>
        rw [h3] at h1
        cases h4 : newE ns x with
        | true => simp
        | false => exact absurd (h1.2 (h2.1 h4)) (by simp)
    exact ⟨fun ⟨x, hx, h⟩ => ⟨x, hx, (hk x hx).1 h⟩, fun ⟨x, hx, h⟩ => ⟨x, hx, (hk x hx).2 h⟩⟩
  rw [hkn]
  split
  · rfl
  rename_i c4
  have hnw : ∀ x ∈ l, ∀ y ∈ preE x, y.k = 2 → y.s ∈ ns := fun x hx => by
    have c4 : l.any (newE ns) = false := by simpa using c4
    have := (List.any_eq_false.1 c4) x hx
    exact (new_ok (hok x hx)).1 (by simpa using this)
  have h0 : BInv ns.length (([], []) : BS) := ⟨rfl, fun x hx => by simp [mhas] at hx, fun x hx => by cases hx⟩
  have hl := lpR_law l (fun x hx => ⟨okT_VT (hok x hx), hnw x hx⟩) [] h0 (by simp) (by simp)
  have ho := ndL_outs ns.length ns l ([], [])
  rw [hl, List.nil_append]
  by_cases h : 200 < (ndL ns.length ns l ([], [])).2.1.length
  · rw [if_pos h, if_pos (.inl h)]
  · rw [if_neg h, if_neg (by omega)]
end Go.Proofs.YtmcdnbmamoggoaaGreat
