/-
  The tape of expressions shares: no operation twice, none for nothing, at most one for each node: plain functions.
-/
import Derived.Test.YtmcdnbmamoggoaaGreatQTe
set_option linter.unusedVariables false
set_option linter.unusedSimpArgs false
namespace Go.Proofs.YtmcdnbmamoggoaaGreat
open Go Go.Sx
def useB (o : TOp) (z : Int) : Prop := o.k ≠ 1 ∧ (o.a = z ∨ ((o.k = 3 ∨ o.k = 4 ∨ o.k = 5 ∨ o.k = 6) ∧ o.b = z))
/-- Each operation from the n-th on is of P or goes into a later one. -/
def Used (ins : Int) (ops : List TOp) (n : Nat) (P : Int → Prop) : Prop := ∀ j : Nat, n ≤ j → j < ops.length → P (ins + j) ∨ ∃ (j' : Nat) (o : TOp), j < j' ∧ ops[j']? = some o ∧ useB o (ins + j)
theorem opn2_0 {k : Int} (h : opn2 k = 0) : k = 1 := by
  unfold opn2 at h
  split at h
  · assumption
  · split at h
    · omega
    · split at h <;> omega
theorem opn2_1 {k : Int} (h : opn2 k = 1) : ¬ (k = 3 ∨ k = 4 ∨ k = 5 ∨ k = 6) := by
  intro h2
  rcases h2 with rfl | rfl | rfl | rfl <;> exact absurd h (by decide)
theorem use_lt {o : TOp} {n z : Int} (h : tB o n = true) (hu : useB o z) : z < n := by
  obtain ⟨h1, h2⟩ := hu
  rcases tB_args h with h4 | ⟨h3, h4, h5⟩ | ⟨h3, ⟨h4, h5⟩, h6, h7⟩
  · exact absurd (opn2_0 h4) h1
  · rcases h2 with h2 | ⟨h2, _⟩
    · omega
    · exact absurd h2 (opn2_1 h3)
  · rcases h2 with h2 | ⟨_, h2⟩ <;> omega
theorem get_app {ops : List TOp} {j : Nat} {o : TOp} (tl : List TOp) (h : ops[j]? = some o) : (ops ++ tl)[j]? = some o := by
  rw [List.getElem?_append_left (List.getElem?_eq_some_iff.1 h).1]; exact h
theorem put_used {ins : Int} {x : TOp} {st : BS} {n : Nat} {P : Int → Prop} (h : BInv ins st) (hn : st.1.Nodup) (hx : tB x (ins + st.1.length) = true) (hu : Used ins st.1 n P) (hP : ∀ z, P z → useB x z) :
    (putS ins x st).2.1.Nodup ∧ Used ins (putS ins x st).2.1 n fun z => z = (putS ins x st).1 := by
  obtain ⟨p1, _, j, p3, p4⟩ := put_law h hx
  have htb := opsB_get p1.1 p4
  rw [p3]
  cases hh : mhas .op x st.2 with
  | true =>
    have e1 : (putS ins x st).2.1 = st.1 := by unfold putS; rw [hh]; rfl
    rw [e1] at p4 ⊢
    refine ⟨hn, fun q h1 h2 => ?_⟩
    rcases hu q h1 h2 with h3 | h3
    · exact .inr ⟨j, x, by have := use_lt htb (hP _ h3); omega, p4, hP _ h3⟩
    · exact .inr h3
  | false =>
    have e1 : (putS ins x st).2.1 = st.1 ++ [x] := by unfold putS; rw [hh]; rfl
    have e2 : (putS ins x st).1 = ins + st.1.length := by unfold putS; rw [hh]; rfl
    have hj : j = st.1.length := by omega
    rw [e1] at p4 ⊢
    refine ⟨?_, fun q h1 h2 => ?_⟩
    · refine List.nodup_append.2 ⟨hn, by simp, fun a ha c hc e => ?_⟩
      have hc : c = x := by simpa using hc
      rw [e, hc] at ha
      rw [h.2.2 x ha] at hh; cases hh
    · by_cases hq : q < st.1.length
      · rcases hu q h1 hq with h3 | ⟨j', o, h3, h4, h5⟩
        · exact .inr ⟨j, x, by omega, p4, hP _ h3⟩
        · exact .inr ⟨j', o, h3, get_app _ h4, h5⟩
      · left
        simp only [List.length_append, List.length_cons, List.length_nil] at h2
        omega
theorem used_both {ins : Int} {ops tl : List TOp} {n : Nat} {P Q : Int → Prop} (h1 : Used ins ops n P) (h2 : Used ins (ops ++ tl) ops.length Q) : Used ins (ops ++ tl) n fun z => P z ∨ Q z := fun q a b => by
  by_cases hq : q < ops.length
  · rcases h1 q a hq with h3 | ⟨j', o, h3, h4, h5⟩
    · exact .inl (.inl h3)
    · exact .inr ⟨j', o, h3, get_app _ h4, h5⟩
  · rcases h2 q (by omega) b with h3 | h3
    · exact .inl (.inr h3)
    · exact .inr h3
theorem used_nil (ins : Int) (ops : List TOp) (P : Int → Prop) : Used ins ops ops.length P := fun q a b => by omega
theorem nd_used {ns : List Bytes} {e : Ex} (h : VT e) : (∀ y ∈ preE e, y.k = 2 → y.s ∈ ns) → ∀ {st : BS}, BInv ns.length st → st.1.Nodup →
    (ndE ns.length ns e st).2.1.Nodup ∧ Used ns.length (ndE ns.length ns e st).2.1 st.1.length fun z => z = (ndE ns.length ns e st).1 := by
  induction h with
  | num r hr =>
    intro _ st hi hn
    have e1 : ndE ns.length ns (ratE r) st = putS ns.length ⟨1, 0, 0, 0, r⟩ st := by simp [ratE, ndE, ndL, at0, at1]
    rw [e1]
    exact put_used (P := fun _ => False) hi hn (by simp [tB, hr]) (used_nil _ _ _) fun z hz => hz.elim
  | var s hs =>
    intro _ st hi hn
    have e1 : ndE ns.length ns (varE s) st = (ixP (eqS s) ns 0, st) := by simp [varE, ndE]
    rw [e1]
    exact ⟨hn, used_nil _ _ _⟩
  | un k a hk ha ih =>
    intro hv st hi hn
    have e1 : ndE ns.length ns (opE k 0 [a]) st = putS ns.length ⟨k, (ndE ns.length ns a st).1, 0, 0, ⟨0, 0⟩⟩ (ndE ns.length ns a st).2 := by simp [opE, ndE, ndL, at0, at1, (K1_ne hk).2]
    rw [e1]
    have hva : ∀ y ∈ preE a, y.k = 2 → y.s ∈ ns := fun y hy => hv y (by simp only [opE, preE, preL, List.append_nil]; exact List.mem_cons_of_mem _ hy)
    obtain ⟨i1, ⟨tl, i2⟩, i3, i4, _⟩ := nd_law ha hva hi
    obtain ⟨u1, u2⟩ := ih hva hi hn
    generalize ndE ns.length ns a st = A at *
    obtain ⟨A, st1⟩ := A
    simp only at i1 i2 i3 i4 u1 u2 ⊢
    refine put_used i1 u1 ?_ u2 fun z hz => ⟨?_, .inl hz.symm⟩
    · have : inB A (ns.length + st1.1.length) = true := by simp only [inB, Bool.and_eq_true, decide_eq_true_eq]; omega
      unfold K1 at hk; rcases hk with rfl | rfl | rfl | rfl | rfl | rfl <;> simp [tB, this]
    · unfold K1 at hk; simp only; omega
  | pow n a h0 h16 ha ih =>
    intro hv st hi hn
    have e1 : ndE ns.length ns (opE 8 n [a]) st = putS ns.length ⟨8, (ndE ns.length ns a st).1, 0, n, ⟨0, 0⟩⟩ (ndE ns.length ns a st).2 := by simp [opE, ndE, ndL, at0, at1]
    rw [e1]
    have hva : ∀ y ∈ preE a, y.k = 2 → y.s ∈ ns := fun y hy => hv y (by simp only [opE, preE, preL, List.append_nil]; exact List.mem_cons_of_mem _ hy)
    obtain ⟨i1, ⟨tl, i2⟩, i3, i4, _⟩ := nd_law ha hva hi
    obtain ⟨u1, u2⟩ := ih hva hi hn
    generalize ndE ns.length ns a st = A at *
    obtain ⟨A, st1⟩ := A
    simp only at i1 i2 i3 i4 u1 u2 ⊢
    refine put_used i1 u1 ?_ u2 fun z hz => ⟨by simp, .inl hz.symm⟩
    have : inB A (ns.length + st1.1.length) = true := by simp only [inB, Bool.and_eq_true, decide_eq_true_eq]; omega
    simp [tB, this, h0, h16]
  | bin k a b hk ha hb ih1 ih2 =>
    intro hv st hi hn
    have e1 : ndE ns.length ns (opE k 0 [a, b]) st = putS ns.length ⟨k, (ndE ns.length ns a st).1, (ndE ns.length ns b (ndE ns.length ns a st).2).1, 0, ⟨0, 0⟩⟩ (ndE ns.length ns b (ndE ns.length ns a st).2).2 := by simp [opE, ndE, ndL, at0, at1, (K2_ne hk).2]
    rw [e1]
    have hva : ∀ y ∈ preE a, y.k = 2 → y.s ∈ ns := fun y hy => hv y (by simp only [opE, preE, preL, List.append_nil]; exact List.mem_cons_of_mem _ (List.mem_append_left _ hy))
    have hvb : ∀ y ∈ preE b, y.k = 2 → y.s ∈ ns := fun y hy => hv y (by simp only [opE, preE, preL, List.append_nil]; exact List.mem_cons_of_mem _ (List.mem_append_right _ hy))
    obtain ⟨i1, ⟨tl, i2⟩, i3, i4, _⟩ := nd_law ha hva hi
    obtain ⟨u1, u2⟩ := ih1 hva hi hn
    generalize ndE ns.length ns a st = A at *
    obtain ⟨A, st1⟩ := A
    simp only at i1 i2 i3 i4 u1 u2 ⊢
    obtain ⟨j1, ⟨tl1, j2⟩, j3, j4, _⟩ := nd_law hb hvb i1
    obtain ⟨w1, w2⟩ := ih2 hvb i1 u1
    generalize ndE ns.length ns b st1 = B at *
    obtain ⟨B, st2⟩ := B
    simp only at j1 j2 j3 j4 w1 w2 ⊢
    have hlen : st1.1.length ≤ st2.1.length := by rw [j2]; simp
    have hub : Used ns.length st2.1 st.1.length fun z => z = A ∨ z = B := by
      rw [j2] at w2 ⊢
      exact used_both u2 w2
    refine put_used j1 w1 ?_ hub fun z hz => ⟨?_, ?_⟩
    · have hA : inB A (ns.length + st2.1.length) = true := by simp only [inB, Bool.and_eq_true, decide_eq_true_eq]; omega
      have hB : inB B (ns.length + st2.1.length) = true := by simp only [inB, Bool.and_eq_true, decide_eq_true_eq]; omega
      unfold K2 at hk; rcases hk with rfl | rfl | rfl | rfl <;> simp [tB, hA, hB]
    · unfold K2 at hk; simp only; omega
    · rcases hz with hz | hz
      · exact .inl hz.symm
      · exact .inr ⟨by unfold K2 at hk; simp only; omega, hz.symm⟩
theorem ndL_used {ns : List Bytes} : ∀ (l : List Ex), (∀ x ∈ l, VT x ∧ ∀ y ∈ preE x, y.k = 2 → y.s ∈ ns) → ∀ {st : BS}, BInv ns.length st → st.1.Nodup →
    (ndL ns.length ns l st).2.1.Nodup ∧ Used ns.length (ndL ns.length ns l st).2.1 st.1.length fun z => z ∈ (ndL ns.length ns l st).1
  | [], _, st, hi, hn => ⟨hn, used_nil _ _ _⟩
  | x :: l, hl, st, hi, hn => by
    obtain ⟨a1, ⟨tl, a2⟩, _⟩ := nd_law (hl x List.mem_cons_self).1 (hl x List.mem_cons_self).2 hi
    obtain ⟨c1, c2⟩ := nd_used (hl x List.mem_cons_self).1 (hl x List.mem_cons_self).2 hi hn
    obtain ⟨b1, ⟨tl2, b2⟩, _⟩ := ndL_law l (fun y hy => hl y (List.mem_cons_of_mem _ hy)) a1
    obtain ⟨d1, d2⟩ := ndL_used l (fun y hy => hl y (List.mem_cons_of_mem _ hy)) a1 c1
    simp only [ndL]
    refine ⟨d1, ?_⟩
    rw [b2] at d2 ⊢
    intro q h1 h2
    rcases used_both c2 d2 q h1 h2 with h3 | h3
    · exact .inl (by rcases h3 with h3 | h3
                     · exact h3 ▸ List.mem_cons_self
                     · exact List.mem_cons_of_mem _ h3)
    · exact .inr h3
/-- THE TAPE SHARES. -/
theorem share_law {l : List Ex} {ns : List Bytes} {t : Tp} (h : cpE l ns = (t, 0)) : t.ops.Nodup ∧ Used t.ins t.ops 0 (fun z => z ∈ t.outs) ∧ t.ops.length ≤ sizL l := by
  obtain ⟨_, _, hok, _, _, he⟩ := back_law h
  have hnw : ∀ x ∈ l, ∀ y ∈ preE x, y.k = 2 → y.s ∈ ns := by
    unfold cpE at h
    split at h
    · simp at h
    split at h
    · simp at h
    split at h
    · simp at h
    split at h
    · simp at h
    rename_i c4
    intro x hx
    have c4 : l.any (newE ns) = false := by simpa using c4
    have := (List.any_eq_false.1 c4) x hx
    exact (new_ok (hok x hx)).1 (by simpa using this)
  have h0 : BInv ns.length (([], []) : BS) := ⟨rfl, fun x hx => by simp [mhas] at hx, fun x hx => by cases hx⟩
  obtain ⟨a1, a2⟩ := ndL_used l (fun x hx => ⟨okT_VT (hok x hx), hnw x hx⟩) h0 (by simp)
  have a3 := ndL_len ns.length ns l ([], [])
  subst he
  exact ⟨a1, a2, by simpa using a3⟩
theorem sizL_snoc (x : Ex) : ∀ l : List Ex, sizL (l ++ [x]) = sizL l + sizE x
  | [] => by simp [sizL]
  | y :: l => by simp only [List.cons_append, sizL, sizL_snoc x l]; omega
end Go.Proofs.YtmcdnbmamoggoaaGreat
