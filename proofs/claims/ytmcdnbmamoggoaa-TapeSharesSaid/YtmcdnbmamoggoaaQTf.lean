/-
  The tape of expressions shares: no operation twice, none for nothing, at most one for each node: plain functions.
-/
import Derived.Test.YtmcdnbmamoggoaaQTe
import Derived.Test.YtmcdnbmamoggoaaQZz
import Derived.Test.YtmcdnbmamoggoaaQTd
set_option linter.unusedVariables false
set_option linter.unusedSimpArgs false
namespace Go.Proofs.Ytmcdnbmamoggoaa
open Go Go.Sx
def useB (o : TOp) (z : Int) : Prop := o.k ≠ 1 ∧ (o.a = z ∨ ((o.k = 3 ∨ o.k = 4 ∨ o.k = 5 ∨ o.k = 6) ∧ o.b = z))
/-- Each operation from the n-th on is of P or goes into a later one. -/
def Used (ins : Int) (ops : List TOp) (n : Nat) (P : Int → Prop) : Prop := ∀ j : Nat, n ≤ j → j < ops.length → P (ins + j) ∨ ∃ (j' : Nat) (o : TOp), j < j' ∧ ops[j']? = some o ∧ useB o (ins + j)
theorem opn2_0 {k : Int} (h : opn2 k = 0) : k = 1 := by
  unfold opn2 at h
  split at h
  · assumption
  · split at h
    · omega
    · split at h <;> omega
theorem opn2_1 {k : Int} (h : opn2 k = 1) : ¬ (k = 3 ∨ k = 4 ∨ k = 5 ∨ k = 6) := by
  intro h2
  rcases h2 with rfl | rfl | rfl | rfl <;> exact absurd h (by decide)
theorem use_lt {o : TOp} {n z : Int} (h : tB o n = true) (hu : useB o z) : z < n := by
  obtain ⟨h1, h2⟩ := hu
  rcases tB_args h with h4 | ⟨h3, h4, h5⟩ | ⟨h3, ⟨h4, h5⟩, h6, h7⟩
  · exact absurd (opn2_0 h4) h1
  · rcases h2 with h2 | ⟨h2, _⟩
    · omega
    · exact absurd h2 (opn2_1 h3)
  · rcases h2 with h2 | ⟨_, h2⟩ <;> omega
theorem get_app {ops : List TOp} {j : Nat} {o : TOp} (tl : List TOp) (h : ops[j]? = some o) : (ops ++ tl)[j]? = some o := by
  rw [List.getElem?_append_left (List.getElem?_eq_some_iff.1 h).1]; exact h
theorem put_used {ins : Int} {x : TOp} {st : BS} {n : Nat} {P : Int → Prop} (h : BInv ins st) (hn : st.1.Nodup) (hx : tB x (ins + st.1.length) = true) (hu : Used ins st.1 n P) (hP : ∀ z, P z → useB x z) :
    (putS ins x st).2.1.Nodup ∧ Used ins (putS ins x st).2.1 n fun z => z = (putS ins x st).1 := by
  obtain ⟨p1, _, j, p3, p4⟩ := put_law h hx
  have htb := opsB_get p1.1 p4
  rw [p3]
  cases hh : mhas .op x st.2 with
  | true =>
    have e1 : (putS ins x st).2.1 = st.1 := by unfold putS; rw [hh]; rfl
    rw [e1] at p4 ⊢
    refine ⟨hn, fun q h1 h2 => ?_⟩
    rcases hu q h1 h2 with h3 | h3
    · exact .inr ⟨j, x, by have := use_lt htb (hP _ h3); omega, p4, hP _ h3⟩
    · exact .inr h3
  | false =>
    have e1 : (putS ins x st).2.1 = st.1 ++ [x] := by unfold putS; rw [hh]; rfl
    have e2 : (putS ins x st).1 = ins + st.1.length := by unfold putS; rw [hh]; rfl
    have hj : j = st.1.length := by omega
    rw [e1] at p4 ⊢
    refine ⟨?_, fun q h1 h2 => ?_⟩
    · refine List.nodup_append.2 ⟨hn, by simp, fun a ha c hc e => ?_⟩
      have hc : c = x := by simpa using hc
      rw [e, hc] at ha
      rw [h.2.2 x ha] at hh; cases hh
    · by_cases hq : q < st.1.length
      · rcases hu q h1 hq with h3 | ⟨j', o, h3, h4, h5⟩
        · exact .inr ⟨j, x, by omega, p4, hP _ h3⟩
        · exact .inr ⟨j', o, h3, get_app _ h4, h5⟩
      · left
        simp only [List.length_append, List.length_cons, List.length_nil] at h2
        omega
theorem used_both {ins : Int} {ops tl : List TOp} {n : Nat} {P Q : Int → Prop} (h1 : Used ins ops n P) (h2 : Used ins (ops ++ tl) ops.length Q) : Used ins (ops ++ tl) n fun z => P z ∨ Q z := fun q a b => by
  by_cases hq : q < ops.length
  · rcases h1 q a hq with h3 | ⟨j', o, h3, h4, h5⟩
    · exact .inl (.inl h3)
    · exact .inr ⟨j', o, h3, get_app _ h4, h5⟩
  · rcases h2 q (by omega) b with h3 | h3
    · exact .inl (.inr h3)
    · exact .inr h3
theorem used_nil (ins : Int) (ops : List TOp) (P : Int → Prop) : Used ins ops ops.length P := fun q a b => by omega
theorem nd_used {ns : List Bytes} {e : Ex} (h : VT e) : (∀ y ∈ preE e, y.k = 2 → y.s ∈ ns) → ∀ {st : BS}, BInv ns.length st → st.1.Nodup →
    (ndE ns.length ns e st).2.1.Nodup ∧ Used ns.length (ndE ns.length ns e st).2.1 st.1.length fun z => z = (ndE ns.length ns e st).1 := by
  induction h with
  | num r hr =>
    intro _ st hi hn
    have e1 : ndE ns.length ns (ratE r) st = putS ns.length ⟨1, 0, 0, 0, r⟩ st := by simp [ratE, ndE, ndL, at0, at1]
    rw [e1]
    exact put_used (P := fun _ => False) hi hn (by simp [tB, hr]) (used_nil _ _ _) fun z hz => hz.elim
  | var s hs =>
    intro _ st hi hn
    have e1 : ndE ns.length ns (varE s) st = (ixP (eqS s) ns 0, st) := by simp [varE, ndE]
    rw [e1]
    exact ⟨hn, used_nil _ _ _⟩
  | un k a hk ha ih =>
    intro hv st hi hn
    have e1 : ndE ns.length ns (opE k 0 [a]) st = putS ns.length ⟨k, (ndE ns.length ns a st).1, 0, 0, ⟨0, 0⟩⟩ (ndE ns.length ns a st).2 := by simp [opE, ndE, ndL, at0, at1, (K1_ne hk).2]
    rw [e1]
    have hva : ∀ y ∈ preE a, y.k = 2 → y.s ∈ ns := fun y hy => hv y (by simp only [opE, preE, preL, List.append_nil]; exact List.mem_cons_of_mem _ hy)
    obtain ⟨i1, ⟨tl, i2⟩, i3, i4, _⟩ := nd_law ha hva hi
    obtain ⟨u1, u2⟩ := ih hva hi hn
    generalize ndE ns.length ns a st = A at *
    obtain ⟨A, st1⟩ := A
    simp only at i1 i2 i3 i4 u1 u2 ⊢
    refine put_used i1 u1 ?_ u2 fun z hz => ⟨?_, .inl hz.symm⟩
    · have : inB A (ns.length + st1.1.length) = true := by simp only [inB, Bool.and_eq_true, decide_eq_true_eq]; omega
      unfold K1 at hk; rcases hk with rfl | rfl | rfl | rfl | rfl | rfl <;> simp [tB, this]
    · unfold K1 at hk; simp only; omega
  | pow n a h0 h16 ha ih =>
    intro hv st hi hn
    have e1 : ndE ns.length ns (opE 8 n [a]) st = putS ns.length ⟨8, (ndE ns.length ns a st).1, 0, n, ⟨0, 0⟩⟩ (ndE ns.length ns a st).2 := by simp [opE, ndE, ndL, at0, at1]
    rw [e1]
    have hva : ∀ y ∈ preE a, y.k = 2 → y.s ∈ ns := fun y hy => hv y (by simp only [opE, preE, preL, List.append_nil]; exact List.mem_cons_of_mem _ hy)
    obtain ⟨i1, ⟨tl, i2⟩, i3, i4, _⟩ := nd_law ha hva hi
    obtain ⟨u1, u2⟩ := ih hva hi hn
    generalize ndE ns.length ns a st = A at *
    obtain ⟨A, st1⟩ := A
    simp only at i1 i2 i3 i4 u1 u2 ⊢
    refine put_used i1 u1 ?_ u2 fun z hz => ⟨by simp, .inl hz.symm⟩
    have : inB A (ns.length + st1.1.length) = true := by simp only [inB, Bool.and_eq_true, decide_eq_true_eq]; omega
    simp [tB, this, h0, h16]
  | bin k a b hk ha hb ih1 ih2 =>
    intro hv st hi hn
    have e1 : ndE ns.length ns (opE k 0 [a, b]) st = putS ns.length ⟨k, (ndE ns.length ns a st).1, (ndE ns.length ns b (ndE ns.length ns a st).2).1, 0, ⟨0, 0⟩⟩ (ndE ns.length ns b (ndE ns.length ns a st).2).2 := by simp [opE, ndE, ndL, at0, at1, (K2_ne hk).2]
    rw [e1]
    have hva : ∀ y ∈ preE a, y.k = 2 → y.s ∈ ns := fun y hy => hv y (by simp only [opE, preE, preL, List.append_nil]; exact List.mem_cons_of_mem _ (List.mem_append_left _ hy))
    have hvb : ∀ y ∈ preE b, y.k = 2 → y.s ∈ ns := fun y hy => hv y (by simp only [opE, preE, preL, List.append_nil]; exact List.mem_cons_of_mem _ (List.mem_append_right _ hy))
    obtain ⟨i1, ⟨tl, i2⟩, i3, i4, _⟩ := nd_law ha hva hi
    obtain ⟨u1, u2⟩ := ih1 hva hi hn
    generalize ndE ns.length ns a st = A at *
    obtain ⟨A, st1⟩ := A
    simp only at i1 i2 i3 i4 u1 u2 ⊢
    obtain ⟨j1, ⟨tl1, j2⟩, j3, j4, _⟩ := nd_law hb hvb i1
    obtain ⟨w1, w2⟩ := ih2 hvb i1 u1
    generalize ndE ns.length ns b st1 = B at *
    obtain ⟨B, st2⟩ := B
    simp only at j1 j2 j3 j4 w1 w2 ⊢
    have hlen : st1.1.length ≤ st2.1.length := by rw [j2]; simp
    have hub : Used ns.length st2.1 st.1.length fun z => z = A ∨ z = B := by
      rw [j2] at w2 ⊢
      exact used_both u2 w2
    refine put_used j1 w1 ?_ hub fun z hz => ⟨?_, ?_⟩
    · have hA : inB A (ns.length + st2.1.length) = true := by simp only [inB, Bool.and_eq_true, decide_eq_true_eq]; omega
      have hB : inB B (ns.length + st2.1.length) = true := by simp only [inB, Bool.and_eq_true, decide_eq_true_eq]; omega
      unfold K2 at hk; rcases hk with rfl | rfl | rfl | rfl <;> simp [tB, hA, hB]
    · unfold K2 at hk; simp only; omega
    · rcases hz with hz | hz
      · exact .inl hz.symm
      · exact .inr ⟨by unfold K2 at hk; simp only; omega, hz.symm⟩
theorem ndL_used {ns : List Bytes} : ∀ (l : List Ex), (∀ x ∈ l, VT x ∧ ∀ y ∈ preE x, y.k = 2 → y.s ∈ ns) → ∀ {st : BS}, BInv ns.length st → st.1.Nodup →
    (ndL ns.length ns l st).2.1.Nodup ∧ Used ns.length (ndL ns.length ns l st).2.1 st.1.length fun z => z ∈ (ndL ns.length ns l st).1
  | [], _, st, hi, hn => ⟨hn, used_nil _ _ _⟩
  | x :: l, hl, st, hi, hn => by
    obtain ⟨a1, ⟨tl, a2⟩, _⟩ := nd_law (hl x List.mem_cons_self).1 (hl x List.mem_cons_self).2 hi
    obtain ⟨c1, c2⟩ := nd_used (hl x List.mem_cons_self).1 (hl x List.mem_cons_self).2 hi hn
    obtain ⟨b1, ⟨tl2, b2⟩, _⟩ := ndL_law l (fun y hy => hl y (List.mem_cons_of_mem _ hy)) a1
    obtain ⟨d1, d2⟩ := ndL_used l (fun y hy => hl y (List.mem_cons_of_mem _ hy)) a1 c1
    simp only [ndL]
    refine ⟨d1, ?_⟩
    rw [b2] at d2 ⊢
    intro q h1 h2
    rcases used_both c2 d2 q h1 h2 with h3 | h3
    · exact .inl (by rcases h3 with h3 | h3
                     · exact h3 ▸ List.mem_cons_self
                     · exact List.mem_cons_of_mem _ h3)
    · exact .inr h3
/-- THE TAPE SHARES. -/
theorem share_law {l : List Ex} {ns : List Bytes} {t : Tp} (h : cpE l ns = (t, 0)) : t.ops.Nodup ∧ Used t.ins t.ops 0 (fun z => z ∈ t.outs) ∧ t.ops.length ≤ sizL l := by
  obtain ⟨_, _, hok, _, _, he⟩ := back_law h
  have hnw : ∀ x ∈ l, ∀ y ∈ preE x, y.k = 2 → y.s ∈ ns := by
    unfold cpE at h
    split at h
    · simp at h
    split at h
    · simp at h
    split at h
    · simp at h
    split at h
    · simp at h
    rename_i c4
    intro x hx
    have c4 : l.any (newE ns) = false := by simpa using c4
    have := (List.any_eq_false.1 c4) x hx
    exact (new_ok (hok x hx)).1 (by simpa using this)
  have h0 : BInv ns.length (([], []) : BS) := ⟨rfl, fun x hx => by simp [mhas] at hx, fun x hx => by cases hx⟩
  obtain ⟨a1, a2⟩ := ndL_used l (fun x hx => ⟨okT_VT (hok x hx), hnw x hx⟩) h0 (by simp)
  have a3 := ndL_len ns.length ns l ([], [])
  subst he
  exact ⟨a1, a2, by simpa using a3⟩
theorem sizL_snoc (x : Ex) : ∀ l : List Ex, sizL (l ++ [x]) = sizL l + sizE x
  | [] => by simp [sizL]
  | y :: l => by simp only [List.cons_append, sizL, sizL_snoc x l]; omega
end Go.Proofs.Ytmcdnbmamoggoaa

/-
  Maps of numbers to truth values: entries.
-/
namespace Go.Proofs.Ytmcdnbmamoggoaa
open Go Go.Sx
theorem keyI (a b : Int) : keyB .int a b = decide (a = b) := by
  rw [Bool.eq_iff_iff, decide_eq_true_eq]
  exact beq_iff_eq (α := Int)
abbrev mgI (x : Int) (es : List (Int × Bool)) : Bool := mget .int x false es
abbrev mpI (x : Int) (r : Bool) (es : List (Int × Bool)) : List (Int × Bool) := mput .int x r es
theorem mgetI (x y : Int) (r : Bool) : ∀ es : List (Int × Bool), mgI x (mpI y r es) = if x = y then r else mgI x es
  | [] => by
    by_cases h : x = y
    · subst h; simp [mgI, mpI, mput, mget, keyI]
    · simp [mgI, mpI, mput, mget, keyI, h]
  | (w, v) :: l => by
    have ih := mgetI x y r l
    by_cases h : y = w
    · subst h
      by_cases h2 : x = y
      · subst h2; simp [mgI, mpI, mput, mget, keyI]
      · simp [mgI, mpI, mput, mget, keyI, h2]
    · by_cases h2 : x = w
      · subst h2
        have h' : ¬ x = y := fun e => h e.symm
        simp [mgI, mpI, mput, mget, keyI, h, h']
      · simp [mgI, mpI, mput, mget, keyI, h, h2]; simpa [mgI, mpI] using ih
theorem mgI_put {x y : Int} {es : List (Int × Bool)} (h : x = y ∨ mgI x es = true) : mgI x (mpI y true es) = true := by
  rw [mgetI]
  split
  · rfl
  · rename_i e
    rcases h with h | h
    · exact absurd h e
    · exact h
theorem mFnd_some {x : Int} : ∀ {es : List (Int × Bool)} {i : Nat}, mFnd (kk := .int) (vk := .bool) x es = some i → ∃ u0, es[i]? = some (x, u0) ∧ ∀ u, mpI x u es = es.set i (x, u)
  | [], i, h => by cases h
  | (y, v) :: l, i, h => by
    simp only [mFnd, keyI] at h
    by_cases e : x = y
    · subst e
      simp at h
      subst h
      exact ⟨v, rfl, fun u => by simp [mpI, mput, keyI]⟩
    · rw [decide_eq_false e] at h
      simp only [cond_false] at h
      obtain ⟨j, hj, rfl⟩ := Option.map_eq_some_iff.1 h
      obtain ⟨u0, h1, h2⟩ := mFnd_some hj
      exact ⟨u0, by simpa using h1, fun u => by have := h2 u; simp only [mpI] at this; simp [mpI, mput, keyI, e, this]⟩
theorem mFnd_none {x : Int} : ∀ {es : List (Int × Bool)}, mFnd (kk := .int) (vk := .bool) x es = none → ∀ u, mpI x u es = es ++ [(x, u)]
  | [], _, u => rfl
  | (y, v) :: l, h, u => by
    simp only [mFnd, keyI] at h
    by_cases e : x = y
    · subst e
      simp at h
    · rw [decide_eq_false e] at h
      simp only [cond_false, Option.map_eq_none_iff] at h
      have := mFnd_none h u
      simp only [mpI] at this
      simp [mpI, mput, keyI, e, this]
theorem entM_put {x : Int} {es es' : List (Int × Bool)} {v : Bool} {j : Nat} (h : entM x es = (es', v, j)) : es'.set j (x, true) = mpI x true es ∧ ∃ u0, es'[j]? = some (x, u0) := by
  unfold entM at h
  split at h
  · rename_i i hi
    simp only [Prod.mk.injEq] at h
    obtain ⟨rfl, rfl, rfl⟩ := h
    obtain ⟨u0, h1, h2⟩ := mFnd_some hi
    exact ⟨(h2 true).symm, u0, h1⟩
  · rename_i hn
    simp only [Prod.mk.injEq] at h
    obtain ⟨rfl, rfl, rfl⟩ := h
    rw [mFnd_none hn]
    exact ⟨by simp, false, by simp⟩
end Go.Proofs.Ytmcdnbmamoggoaa

/-
  slices.Contains of operations, where it is not there.
-/
namespace Go.Proofs.Ytmcdnbmamoggoaa
open Go Go.Sx
set_option maxRecDepth 100000
set_option maxHeartbeats 8000000
theorem f96 (l : List TOp) (x : TOp) (hx : x ∉ l) (hlen : l.length < 9223372036854775808) : Fn 96 [] [.sl .op l, .agg (Elt.op.cells x)] (.int .i64 (-1)) [] := by
  refine fnT hT2 hmx Try.func96 rfl rfl (ex := []) ?_
  conv => whnf
  refine ⟨Nat, fun i => i ≤ l.length, fun i => [(8, .int .i64 i)], fun _ => [], fun i => l.length - i, 0, by simp, ?_, fun i hi => ?_⟩
  · ((conv => whnf); refine And.intro ?_ ?_; repeat' first | refine leL_cons ?_ ?_ | exact leA_any | exact leA_refl rfl | exact leL_nil | refine leH_cons ?_ ?_ | exact leH_nil | exact leB_free | exact leB_dead | refine leB_cells ?_ | exact leB_map rfl | exact leB_gst rfl | exact leA_nil rfl | refine leA_agg ?_ | refine leA_tup ?_ | fail)
  (refine ⟨by kernel_rfl, ?_⟩; (conv => whnf))
  have hi1 : i ≤ l.length := hi
  refine brI (fun h1 => ?_) (fun h1 => ?_)
  · conv => whnf
    have hi : i < l.length := by simp only [decide_eq_true_eq] at h1; omega
    refine ⟨⟨by omega, by omega⟩, fun (y : TOp) hy => ?_⟩
    have hy : l[i]? = some y := by simpa using hy
    conv => whnf
    (refine ⟨by kernel_rfl, by kernel_rfl, ?_⟩; (conv => whnf))
    refine brI (fun h3 => ?_) (fun h3 => ?_)
    · exfalso
      have h3 : x = y := by
        obtain ⟨k, a, b, p, ⟨c, d⟩⟩ := x
        obtain ⟨k', a', b', p', ⟨c', d'⟩⟩ := y
        simpa using h3
      exact hx (h3 ▸ List.mem_of_getElem? hy)
    · conv => whnf
      refine ⟨i + 1, (by omega : i + 1 ≤ l.length), by show l.length - (i + 1) < l.length - i; omega, ?_⟩
      ((conv => whnf); refine And.intro ?_ ?_; repeat' first | refine leL_cons ?_ ?_ | exact leA_any | exact leA_refl rfl | exact leL_nil | refine leH_cons ?_ ?_ | exact leH_nil | exact leB_free | exact leB_dead | refine leB_cells ?_ | exact leB_map rfl | exact leB_gst rfl | exact leA_nil rfl | refine leA_agg ?_ | refine leA_tup ?_ | fail)
      exact leA_int (by rw [wI (by omega)]; omega)
  · conv => whnf
    exact ⟨leA_refl rfl, leH_nil⟩
theorem f47 (l : List TOp) (x : TOp) (hx : x ∉ l) (hlen : l.length < 9223372036854775808) : Fn 47 [] [.sl .op l, .agg (Elt.op.cells x)] (.bool false) [] := by
  refine fnT hT2 hmx Try.func47 rfl rfl (ex := []) ?_
  conv => whnf
  refine ⟨[], _, f96 l x hx hlen, ?_⟩
  conv => whnf
  exact ⟨leA_refl rfl, leH_nil⟩
end Go.Proofs.Ytmcdnbmamoggoaa

/-
  TapeShares: the region that marks two operands, in every order.
-/
namespace Go.Proofs.Ytmcdnbmamoggoaa
open Go Go.Sx
set_option maxRecDepth 100000
set_option maxHeartbeats 8000000
def S32b (t : Tp) (x : TOp) (i : Nat) (z : Int) (e0 e1 e2 e3 e4 : List (Int × Bool)) (vA vB : Bool) (jA jB : Nat) (b0 b1 b2 b3 b4 b5 b6 b7 b8 b9 b10 b11 b12 b13 b14 b15 b16 b17 b18 b19 : Bool) : St :=
  ⟨[.any, .any, .any, .any, .any, .ptr 5 0, .any, .int .i64 z, .any, .any, .mp 37, .any, .any, .int .i64 i, .any, .any, .any, .any, .any, .any, .any, .any, .any, .any, .any, .any, .any, .any, .any, .any, .any, .any, .any, .any, .any, .any, .any, .any, .any, .any, .any, .any, .any, .any, .any, .any, .any, .any, .any, .any, .any, .any, .any, .any, .any, .any, .any, .any, .any, .any, .any, .any, .any, .any, .any, .any, .any, .any, .any, .any, .any, .any, .any, .any, .any, .any, .any, .any, .any, .any, .any, .any, .any, .any, .any, .any, .any, .any, .any, .any, .any, .any, .any, .any, .any, (bif b0 then .mp 37 else .any), (bif b1 then .ptr 5 1 else .any), (bif b2 then .sl .op t.ops else .any), (bif b3 then .int .i64 i else .any), (bif b4 then .rp .op x 0 else .any), (bif b5 then .rp .op x 1 else .any), (bif b6 then .int .i64 x.a else .any), (bif b7 then .mp 37 else .any), (bif b8 then .ptr 5 1 else .any), (bif b9 then .sl .op t.ops else .any), (bif b10 then .int .i64 i else .any), (bif b11 then .rp .op x 0 else .any), (bif b12 then .rp .op x 2 else .any), (bif b13 then .int .i64 x.b else .any), (bif b14 then .tup [.bool vA, .int .i64 jA] else .any), (bif b15 then .int .i64 jA else .any), (bif b17 then .tup [.bool vB, .int .i64 jB] else .any), (bif b18 then .int .i64 jB else .any), .any, .any, .any, .any, .any],
   [(5, .cells (tpC t)), (9, .free), (37, .map .int .bool (bif b19 then e4 else bif b17 then e3 else bif b16 then e2 else bif b14 then e1 else e0))]⟩
def S32 (t : Tp) (x : TOp) (i : Nat) (z : Int) (e0 e1 e2 e3 e4 : List (Int × Bool)) (vA vB : Bool) (jA jB : Nat) (L : Nat → Bool) : St := S32b t x i z e0 e1 e2 e3 e4 vA vB jA jB (L 0) (L 1) (L 2) (L 3) (L 4) (L 5) (L 6) (L 7) (L 8) (L 9) (L 10) (L 11) (L 12) (L 13) (L 14) (L 15) (L 16) (L 17) (L 18) (L 19)
def reg32 : Code → Code
  | .seq _ (.seq _ (.seq _ (.seq _ (.seq _ (.seq _ (.seq _ (.seq _ (.seq _ (.seq (.seq _ (.block _ (.loop (.seq _ (.seq (.block _ (.seq _ (.seq _ (.block _ (.seq _ (.cond _ _ (.seq _ (.cond _ r _))))))) ) _))))) _))))))))) => r
  | c => c
def opsO : Code → Array Oper
  | .region _ ops _ => ops
  | _ => #[]
noncomputable def ops32 : Array Oper := opsO (reg32 (Try.f9.body.getD .skip))
theorem zero4 (w : World) : (zeroValue 4).run Try.prog w = .ok (.bool false) w := by kernel_rfl
section
variable (t : Tp) (x : TOp) (i : Nat) (z : Int) (e0 e1 e2 e3 e4 : List (Int × Bool)) (vA vB : Bool) (jA jB : Nat) (L : Nat → Bool)
theorem op32_0 : ∀ o, ops32[0]? = some o → OpT Try.prog o (S32b t x i z e0 e1 e2 e3 e4 vA vB jA jB false (L 1) (L 2) (L 3) (L 4) (L 5) (L 6) (L 7) (L 8) (L 9) (L 10) (L 11) (L 12) (L 13) (L 14) (L 15) (L 16) (L 17) (L 18) (L 19)) (S32b t x i z e0 e1 e2 e3 e4 vA vB jA jB true (L 1) (L 2) (L 3) (L 4) (L 5) (L 6) (L 7) (L 8) (L 9) (L 10) (L 11) (L 12) (L 13) (L 14) (L 15) (L 16) (L 17) (L 18) (L 19)) := by
  intro o ho
  have ho : some _ = some o := ho
  cases ho
  refine opT_eq hT2 rfl ?_
  conv => whnf
  exact rfl
theorem op32_1 : ∀ o, ops32[1]? = some o → OpT Try.prog o (S32b t x i z e0 e1 e2 e3 e4 vA vB jA jB (L 0) false (L 2) (L 3) (L 4) (L 5) (L 6) (L 7) (L 8) (L 9) (L 10) (L 11) (L 12) (L 13) (L 14) (L 15) (L 16) (L 17) (L 18) (L 19)) (S32b t x i z e0 e1 e2 e3 e4 vA vB jA jB (L 0) true (L 2) (L 3) (L 4) (L 5) (L 6) (L 7) (L 8) (L 9) (L 10) (L 11) (L 12) (L 13) (L 14) (L 15) (L 16) (L 17) (L 18) (L 19)) := by
  intro o ho
  have ho : some _ = some o := ho
  cases ho
  refine opT_eq hT2 rfl ?_
  conv => whnf
  exact rfl
theorem op32_2 : ∀ o, ops32[2]? = some o → OpT Try.prog o (S32b t x i z e0 e1 e2 e3 e4 vA vB jA jB (L 0) true false (L 3) (L 4) (L 5) (L 6) (L 7) (L 8) (L 9) (L 10) (L 11) (L 12) (L 13) (L 14) (L 15) (L 16) (L 17) (L 18) (L 19)) (S32b t x i z e0 e1 e2 e3 e4 vA vB jA jB (L 0) true true (L 3) (L 4) (L 5) (L 6) (L 7) (L 8) (L 9) (L 10) (L 11) (L 12) (L 13) (L 14) (L 15) (L 16) (L 17) (L 18) (L 19)) := by
  intro o ho
  have ho : some _ = some o := ho
  cases ho
  refine opT_eq hT2 rfl ?_
  conv => whnf
  exact rfl
theorem op32_3 : ∀ o, ops32[3]? = some o → OpT Try.prog o (S32b t x i z e0 e1 e2 e3 e4 vA vB jA jB (L 0) (L 1) (L 2) false (L 4) (L 5) (L 6) (L 7) (L 8) (L 9) (L 10) (L 11) (L 12) (L 13) (L 14) (L 15) (L 16) (L 17) (L 18) (L 19)) (S32b t x i z e0 e1 e2 e3 e4 vA vB jA jB (L 0) (L 1) (L 2) true (L 4) (L 5) (L 6) (L 7) (L 8) (L 9) (L 10) (L 11) (L 12) (L 13) (L 14) (L 15) (L 16) (L 17) (L 18) (L 19)) := by
  intro o ho
  have ho : some _ = some o := ho
  cases ho
  refine opT_eq hT2 rfl ?_
  conv => whnf
  exact rfl
theorem op32_4 (hx : t.ops[i]? = some x) (hlen : t.ops.length < 9223372036854775808) : ∀ o, ops32[4]? = some o → OpT Try.prog o (S32b t x i z e0 e1 e2 e3 e4 vA vB jA jB (L 0) (L 1) true true false (L 5) (L 6) (L 7) (L 8) (L 9) (L 10) (L 11) (L 12) (L 13) (L 14) (L 15) (L 16) (L 17) (L 18) (L 19)) (S32b t x i z e0 e1 e2 e3 e4 vA vB jA jB (L 0) (L 1) true true true (L 5) (L 6) (L 7) (L 8) (L 9) (L 10) (L 11) (L 12) (L 13) (L 14) (L 15) (L 16) (L 17) (L 18) (L 19)) := by
  intro o ho
  have ho : some _ = some o := ho
  cases ho
  refine opT_eq hT2 rfl ?_
  conv => whnf
  have hi := (List.getElem?_eq_some_iff.1 hx).1
  refine ⟨⟨by omega, by omega⟩, fun (y : TOp) hy => ?_⟩
  have hy : t.ops[i]? = some y := by simpa using hy
  rw [hx] at hy
  cases hy
  conv => whnf
  exact rfl
theorem op32_5 : ∀ o, ops32[5]? = some o → OpT Try.prog o (S32b t x i z e0 e1 e2 e3 e4 vA vB jA jB (L 0) (L 1) (L 2) (L 3) true false (L 6) (L 7) (L 8) (L 9) (L 10) (L 11) (L 12) (L 13) (L 14) (L 15) (L 16) (L 17) (L 18) (L 19)) (S32b t x i z e0 e1 e2 e3 e4 vA vB jA jB (L 0) (L 1) (L 2) (L 3) true true (L 6) (L 7) (L 8) (L 9) (L 10) (L 11) (L 12) (L 13) (L 14) (L 15) (L 16) (L 17) (L 18) (L 19)) := by
  intro o ho
  have ho : some _ = some o := ho
  cases ho
  refine opT_eq hT2 rfl ?_
  conv => whnf
  exact rfl
theorem op32_6 : ∀ o, ops32[6]? = some o → OpT Try.prog o (S32b t x i z e0 e1 e2 e3 e4 vA vB jA jB (L 0) (L 1) (L 2) (L 3) (L 4) true false (L 7) (L 8) (L 9) (L 10) (L 11) (L 12) (L 13) (L 14) (L 15) (L 16) (L 17) (L 18) (L 19)) (S32b t x i z e0 e1 e2 e3 e4 vA vB jA jB (L 0) (L 1) (L 2) (L 3) (L 4) true true (L 7) (L 8) (L 9) (L 10) (L 11) (L 12) (L 13) (L 14) (L 15) (L 16) (L 17) (L 18) (L 19)) := by
  intro o ho
  have ho : some _ = some o := ho
  cases ho
  refine opT_eq hT2 rfl ?_
  conv => whnf
  exact rfl
theorem op32_7 : ∀ o, ops32[7]? = some o → OpT Try.prog o (S32b t x i z e0 e1 e2 e3 e4 vA vB jA jB (L 0) (L 1) (L 2) (L 3) (L 4) (L 5) (L 6) false (L 8) (L 9) (L 10) (L 11) (L 12) (L 13) (L 14) (L 15) (L 16) (L 17) (L 18) (L 19)) (S32b t x i z e0 e1 e2 e3 e4 vA vB jA jB (L 0) (L 1) (L 2) (L 3) (L 4) (L 5) (L 6) true (L 8) (L 9) (L 10) (L 11) (L 12) (L 13) (L 14) (L 15) (L 16) (L 17) (L 18) (L 19)) := by
  intro o ho
  have ho : some _ = some o := ho
  cases ho
  refine opT_eq hT2 rfl ?_
  conv => whnf
  exact rfl
theorem op32_8 : ∀ o, ops32[8]? = some o → OpT Try.prog o (S32b t x i z e0 e1 e2 e3 e4 vA vB jA jB (L 0) (L 1) (L 2) (L 3) (L 4) (L 5) (L 6) (L 7) false (L 9) (L 10) (L 11) (L 12) (L 13) (L 14) (L 15) (L 16) (L 17) (L 18) (L 19)) (S32b t x i z e0 e1 e2 e3 e4 vA vB jA jB (L 0) (L 1) (L 2) (L 3) (L 4) (L 5) (L 6) (L 7) true (L 9) (L 10) (L 11) (L 12) (L 13) (L 14) (L 15) (L 16) (L 17) (L 18) (L 19)) := by
  intro o ho
  have ho : some _ = some o := ho
  cases ho
  refine opT_eq hT2 rfl ?_
  conv => whnf
  exact rfl
theorem op32_9 : ∀ o, ops32[9]? = some o → OpT Try.prog o (S32b t x i z e0 e1 e2 e3 e4 vA vB jA jB (L 0) (L 1) (L 2) (L 3) (L 4) (L 5) (L 6) (L 7) true false (L 10) (L 11) (L 12) (L 13) (L 14) (L 15) (L 16) (L 17) (L 18) (L 19)) (S32b t x i z e0 e1 e2 e3 e4 vA vB jA jB (L 0) (L 1) (L 2) (L 3) (L 4) (L 5) (L 6) (L 7) true true (L 10) (L 11) (L 12) (L 13) (L 14) (L 15) (L 16) (L 17) (L 18) (L 19)) := by
  intro o ho
  have ho : some _ = some o := ho
  cases ho
  refine opT_eq hT2 rfl ?_
  conv => whnf
  exact rfl
theorem op32_10 : ∀ o, ops32[10]? = some o → OpT Try.prog o (S32b t x i z e0 e1 e2 e3 e4 vA vB jA jB (L 0) (L 1) (L 2) (L 3) (L 4) (L 5) (L 6) (L 7) (L 8) (L 9) false (L 11) (L 12) (L 13) (L 14) (L 15) (L 16) (L 17) (L 18) (L 19)) (S32b t x i z e0 e1 e2 e3 e4 vA vB jA jB (L 0) (L 1) (L 2) (L 3) (L 4) (L 5) (L 6) (L 7) (L 8) (L 9) true (L 11) (L 12) (L 13) (L 14) (L 15) (L 16) (L 17) (L 18) (L 19)) := by
  intro o ho
  have ho : some _ = some o := ho
  cases ho
  refine opT_eq hT2 rfl ?_
  conv => whnf
  exact rfl
theorem op32_11 (hx : t.ops[i]? = some x) (hlen : t.ops.length < 9223372036854775808) : ∀ o, ops32[11]? = some o → OpT Try.prog o (S32b t x i z e0 e1 e2 e3 e4 vA vB jA jB (L 0) (L 1) (L 2) (L 3) (L 4) (L 5) (L 6) (L 7) (L 8) true true false (L 12) (L 13) (L 14) (L 15) (L 16) (L 17) (L 18) (L 19)) (S32b t x i z e0 e1 e2 e3 e4 vA vB jA jB (L 0) (L 1) (L 2) (L 3) (L 4) (L 5) (L 6) (L 7) (L 8) true true true (L 12) (L 13) (L 14) (L 15) (L 16) (L 17) (L 18) (L 19)) := by
  intro o ho
  have ho : some _ = some o := ho
  cases ho
  refine opT_eq hT2 rfl ?_
  conv => whnf
  have hi := (List.getElem?_eq_some_iff.1 hx).1
  refine ⟨⟨by omega, by omega⟩, fun (y : TOp) hy => ?_⟩
  have hy : t.ops[i]? = some y := by simpa using hy
  rw [hx] at hy
  cases hy
  conv => whnf
  exact rfl
theorem op32_12 : ∀ o, ops32[12]? = some o → OpT Try.prog o (S32b t x i z e0 e1 e2 e3 e4 vA vB jA jB (L 0) (L 1) (L 2) (L 3) (L 4) (L 5) (L 6) (L 7) (L 8) (L 9) (L 10) true false (L 13) (L 14) (L 15) (L 16) (L 17) (L 18) (L 19)) (S32b t x i z e0 e1 e2 e3 e4 vA vB jA jB (L 0) (L 1) (L 2) (L 3) (L 4) (L 5) (L 6) (L 7) (L 8) (L 9) (L 10) true true (L 13) (L 14) (L 15) (L 16) (L 17) (L 18) (L 19)) := by
  intro o ho
  have ho : some _ = some o := ho
  cases ho
  refine opT_eq hT2 rfl ?_
  conv => whnf
  exact rfl
theorem op32_13 : ∀ o, ops32[13]? = some o → OpT Try.prog o (S32b t x i z e0 e1 e2 e3 e4 vA vB jA jB (L 0) (L 1) (L 2) (L 3) (L 4) (L 5) (L 6) (L 7) (L 8) (L 9) (L 10) (L 11) true false (L 14) (L 15) (L 16) (L 17) (L 18) (L 19)) (S32b t x i z e0 e1 e2 e3 e4 vA vB jA jB (L 0) (L 1) (L 2) (L 3) (L 4) (L 5) (L 6) (L 7) (L 8) (L 9) (L 10) (L 11) true true (L 14) (L 15) (L 16) (L 17) (L 18) (L 19)) := by
  intro o ho
  have ho : some _ = some o := ho
  cases ho
  refine opT_eq hT2 rfl ?_
  conv => whnf
  exact rfl
theorem op32_14 (hA : entM x.a e0 = (e1, vA, jA)) : ∀ o, ops32[14]? = some o → OpT Try.prog o (S32b t x i z e0 e1 e2 e3 e4 vA vB jA jB true (L 1) (L 2) (L 3) (L 4) (L 5) true (L 7) (L 8) (L 9) (L 10) (L 11) (L 12) (L 13) false (L 15) false false (L 18) false) (S32b t x i z e0 e1 e2 e3 e4 vA vB jA jB true (L 1) (L 2) (L 3) (L 4) (L 5) true (L 7) (L 8) (L 9) (L 10) (L 11) (L 12) (L 13) true (L 15) false false (L 18) false) := by
  intro o ho
  have ho : some _ = some o := ho
  cases ho
  exact (opT_entry (kt := 3) (vt := 4) (id := 37) (d := 109) (x := x.a) (es := e0) (es' := e1) (v := vA) (j := jA) rfl rfl rfl Try.underlying69 zero4 key3 rfl rfl rfl hA).to rfl
theorem op32_15 : ∀ o, ops32[15]? = some o → OpT Try.prog o (S32b t x i z e0 e1 e2 e3 e4 vA vB jA jB (L 0) (L 1) (L 2) (L 3) (L 4) (L 5) (L 6) (L 7) (L 8) (L 9) (L 10) (L 11) (L 12) (L 13) true false (L 16) (L 17) (L 18) (L 19)) (S32b t x i z e0 e1 e2 e3 e4 vA vB jA jB (L 0) (L 1) (L 2) (L 3) (L 4) (L 5) (L 6) (L 7) (L 8) (L 9) (L 10) (L 11) (L 12) (L 13) true true (L 16) (L 17) (L 18) (L 19)) := by
  intro o ho
  have ho : some _ = some o := ho
  cases ho
  refine opT_eq hT2 rfl ?_
  conv => whnf
  exact rfl
theorem op32_16 (h2 : ∃ u0, e1[jA]? = some (x.a, u0)) (h2e : e2 = e1.set jA (x.a, true)) : ∀ o, ops32[16]? = some o → OpT Try.prog o (S32b t x i z e0 e1 e2 e3 e4 vA vB jA jB true (L 1) (L 2) (L 3) (L 4) (L 5) (L 6) (L 7) (L 8) (L 9) (L 10) (L 11) (L 12) (L 13) true true false false (L 18) false) (S32b t x i z e0 e1 e2 e3 e4 vA vB jA jB true (L 1) (L 2) (L 3) (L 4) (L 5) (L 6) (L 7) (L 8) (L 9) (L 10) (L 11) (L 12) (L 13) true true true false (L 18) false) := by
  intro o ho
  have ho : some _ = some o := ho
  cases ho
  obtain ⟨u0, hu⟩ := h2
  subst h2e
  exact (opT_estore (id := 37) (x := x.a) (es := e1) (u := true) (u0 := u0) (j := jA) rfl rfl rfl rfl rfl rfl rfl hu).to rfl
theorem op32_17 (hB : entM x.b e2 = (e3, vB, jB)) : ∀ o, ops32[17]? = some o → OpT Try.prog o (S32b t x i z e0 e1 e2 e3 e4 vA vB jA jB (L 0) (L 1) (L 2) (L 3) (L 4) (L 5) (L 6) true (L 8) (L 9) (L 10) (L 11) (L 12) true true (L 15) true false (L 18) false) (S32b t x i z e0 e1 e2 e3 e4 vA vB jA jB (L 0) (L 1) (L 2) (L 3) (L 4) (L 5) (L 6) true (L 8) (L 9) (L 10) (L 11) (L 12) true true (L 15) true true (L 18) false) := by
  intro o ho
  have ho : some _ = some o := ho
  cases ho
  exact (opT_entry (kt := 3) (vt := 4) (id := 37) (d := 111) (x := x.b) (es := e2) (es' := e3) (v := vB) (j := jB) rfl rfl rfl Try.underlying69 zero4 key3 rfl rfl rfl hB).to rfl
theorem op32_18 : ∀ o, ops32[18]? = some o → OpT Try.prog o (S32b t x i z e0 e1 e2 e3 e4 vA vB jA jB (L 0) (L 1) (L 2) (L 3) (L 4) (L 5) (L 6) (L 7) (L 8) (L 9) (L 10) (L 11) (L 12) (L 13) (L 14) (L 15) (L 16) true false (L 19)) (S32b t x i z e0 e1 e2 e3 e4 vA vB jA jB (L 0) (L 1) (L 2) (L 3) (L 4) (L 5) (L 6) (L 7) (L 8) (L 9) (L 10) (L 11) (L 12) (L 13) (L 14) (L 15) (L 16) true true (L 19)) := by
  intro o ho
  have ho : some _ = some o := ho
  cases ho
  refine opT_eq hT2 rfl ?_
  conv => whnf
  exact rfl
theorem op32_19 (h4 : ∃ u0, e3[jB]? = some (x.b, u0)) (h4e : e4 = e3.set jB (x.b, true)) : ∀ o, ops32[19]? = some o → OpT Try.prog o (S32b t x i z e0 e1 e2 e3 e4 vA vB jA jB (L 0) (L 1) (L 2) (L 3) (L 4) (L 5) (L 6) true (L 8) (L 9) (L 10) (L 11) (L 12) (L 13) true (L 15) true true true false) (S32b t x i z e0 e1 e2 e3 e4 vA vB jA jB (L 0) (L 1) (L 2) (L 3) (L 4) (L 5) (L 6) true (L 8) (L 9) (L 10) (L 11) (L 12) (L 13) true (L 15) true true true true) := by
  intro o ho
  have ho : some _ = some o := ho
  cases ho
  obtain ⟨u0, hu⟩ := h4
  subst h4e
  exact (opT_estore (id := 37) (x := x.b) (es := e3) (u := true) (u0 := u0) (j := jB) rfl rfl rfl rfl rfl rfl rfl hu).to rfl
theorem step32 (hx : t.ops[i]? = some x) (hlen : t.ops.length < 9223372036854775808) (hA : entM x.a e0 = (e1, vA, jA)) (h2 : ∃ u0, e1[jA]? = some (x.a, u0)) (h2e : e2 = e1.set jA (x.a, true)) (hB : entM x.b e2 = (e3, vB, jB)) (h4 : ∃ u0, e3[jB]? = some (x.b, u0)) (h4e : e4 = e3.set jB (x.b, true))
    (j : Nat) (o : Oper) (hcl : ∀ j oj, ops32[j]? = some oj → L j = true → ∀ e ∈ oj.after, Region.binds .any e = true → L e.on = true) (ho : ops32[j]? = some o) (hL : L j = false)
    (hd : ∀ e ∈ o.after, Region.binds .any e = true → L e.on = true) : OpT Try.prog o (S32 t x i z e0 e1 e2 e3 e4 vA vB jA jB L) (S32 t x i z e0 e1 e2 e3 e4 vA vB jA jB (setF L j)) := by
  have dpq : ∀ {j : Nat}, ops32[j]? = some o → ∀ q, ((ops32[j]?.map fun o => o.after.toList.any fun e => Region.binds .any e && Nat.beq e.on q) = some true) → L q = true := fun {j} ho q hq => by
    rw [ho] at hq
    simp only [Option.map_some, Option.some.injEq, List.any_eq_true, Bool.and_eq_true] at hq
    obtain ⟨e, he, h1, h2⟩ := hq
    have := hd e (by simpa using he) h1
    rw [(beq_iff _ _).1 h2] at this; exact this
  have cl : ∀ a q, ((ops32[a]?.map fun o => o.after.toList.any fun e => Region.binds .any e && Nat.beq e.on q) = some true) → L a = true → L q = true := fun a q hq ha => by
    cases ho : ops32[a]? with
    | none => rw [ho] at hq; cases hq
    | some oa =>
      rw [ho] at hq
      simp only [Option.map_some, Option.some.injEq, List.any_eq_true, Bool.and_eq_true] at hq
      obtain ⟨e, he, h1, h2⟩ := hq
      have := hcl a oa ho ha e (by simpa using he) h1
      rw [(beq_iff _ _).1 h2] at this; exact this
  have c16_14 : L 16 = true → L 14 = true := cl 16 14 (by decide +kernel)
  have c17_14 : L 17 = true → L 14 = true := cl 17 14 (by decide +kernel)
  have c17_16 : L 17 = true → L 16 = true := cl 17 16 (by decide +kernel)
  have c19_14 : L 19 = true → L 14 = true := cl 19 14 (by decide +kernel)
  have c19_16 : L 19 = true → L 16 = true := cl 19 16 (by decide +kernel)
  have c19_17 : L 19 = true → L 17 = true := cl 19 17 (by decide +kernel)
  match j, ho, hL with
  | 0, ho, hL =>
    have hall := op32_0 t x i z e0 e1 e2 e3 e4 vA vB jA jB L o ho
    have dp : ∀ q, ((ops32[0]?.map fun o => o.after.toList.any fun e => Region.binds .any e && Nat.beq e.on q) = some true) → L q = true := dpq ho
    show OpT Try.prog o (S32b t x i z e0 e1 e2 e3 e4 vA vB jA jB (L 0) (L 1) (L 2) (L 3) (L 4) (L 5) (L 6) (L 7) (L 8) (L 9) (L 10) (L 11) (L 12) (L 13) (L 14) (L 15) (L 16) (L 17) (L 18) (L 19)) (S32b t x i z e0 e1 e2 e3 e4 vA vB jA jB true (L 1) (L 2) (L 3) (L 4) (L 5) (L 6) (L 7) (L 8) (L 9) (L 10) (L 11) (L 12) (L 13) (L 14) (L 15) (L 16) (L 17) (L 18) (L 19))
    rw [hL]
    exact hall
  | 1, ho, hL =>
    have hall := op32_1 t x i z e0 e1 e2 e3 e4 vA vB jA jB L o ho
    have dp : ∀ q, ((ops32[1]?.map fun o => o.after.toList.any fun e => Region.binds .any e && Nat.beq e.on q) = some true) → L q = true := dpq ho
    show OpT Try.prog o (S32b t x i z e0 e1 e2 e3 e4 vA vB jA jB (L 0) (L 1) (L 2) (L 3) (L 4) (L 5) (L 6) (L 7) (L 8) (L 9) (L 10) (L 11) (L 12) (L 13) (L 14) (L 15) (L 16) (L 17) (L 18) (L 19)) (S32b t x i z e0 e1 e2 e3 e4 vA vB jA jB (L 0) true (L 2) (L 3) (L 4) (L 5) (L 6) (L 7) (L 8) (L 9) (L 10) (L 11) (L 12) (L 13) (L 14) (L 15) (L 16) (L 17) (L 18) (L 19))
    rw [hL]
    exact hall
  | 2, ho, hL =>
    have hall := op32_2 t x i z e0 e1 e2 e3 e4 vA vB jA jB L o ho
    have dp : ∀ q, ((ops32[2]?.map fun o => o.after.toList.any fun e => Region.binds .any e && Nat.beq e.on q) = some true) → L q = true := dpq ho
    have g1 : L 1 = true := dp 1 (by decide +kernel)
    show OpT Try.prog o (S32b t x i z e0 e1 e2 e3 e4 vA vB jA jB (L 0) (L 1) (L 2) (L 3) (L 4) (L 5) (L 6) (L 7) (L 8) (L 9) (L 10) (L 11) (L 12) (L 13) (L 14) (L 15) (L 16) (L 17) (L 18) (L 19)) (S32b t x i z e0 e1 e2 e3 e4 vA vB jA jB (L 0) (L 1) true (L 3) (L 4) (L 5) (L 6) (L 7) (L 8) (L 9) (L 10) (L 11) (L 12) (L 13) (L 14) (L 15) (L 16) (L 17) (L 18) (L 19))
    rw [hL, g1]
    exact hall
  | 3, ho, hL =>
    have hall := op32_3 t x i z e0 e1 e2 e3 e4 vA vB jA jB L o ho
    have dp : ∀ q, ((ops32[3]?.map fun o => o.after.toList.any fun e => Region.binds .any e && Nat.beq e.on q) = some true) → L q = true := dpq ho
    show OpT Try.prog o (S32b t x i z e0 e1 e2 e3 e4 vA vB jA jB (L 0) (L 1) (L 2) (L 3) (L 4) (L 5) (L 6) (L 7) (L 8) (L 9) (L 10) (L 11) (L 12) (L 13) (L 14) (L 15) (L 16) (L 17) (L 18) (L 19)) (S32b t x i z e0 e1 e2 e3 e4 vA vB jA jB (L 0) (L 1) (L 2) true (L 4) (L 5) (L 6) (L 7) (L 8) (L 9) (L 10) (L 11) (L 12) (L 13) (L 14) (L 15) (L 16) (L 17) (L 18) (L 19))
    rw [hL]
    exact hall
  | 4, ho, hL =>
    have hall := op32_4 t x i z e0 e1 e2 e3 e4 vA vB jA jB L hx hlen o ho
    have dp : ∀ q, ((ops32[4]?.map fun o => o.after.toList.any fun e => Region.binds .any e && Nat.beq e.on q) = some true) → L q = true := dpq ho
    have g2 : L 2 = true := dp 2 (by decide +kernel)
    have g3 : L 3 = true := dp 3 (by decide +kernel)
    show OpT Try.prog o (S32b t x i z e0 e1 e2 e3 e4 vA vB jA jB (L 0) (L 1) (L 2) (L 3) (L 4) (L 5) (L 6) (L 7) (L 8) (L 9) (L 10) (L 11) (L 12) (L 13) (L 14) (L 15) (L 16) (L 17) (L 18) (L 19)) (S32b t x i z e0 e1 e2 e3 e4 vA vB jA jB (L 0) (L 1) (L 2) (L 3) true (L 5) (L 6) (L 7) (L 8) (L 9) (L 10) (L 11) (L 12) (L 13) (L 14) (L 15) (L 16) (L 17) (L 18) (L 19))
    rw [hL, g2, g3]
    exact hall
  | 5, ho, hL =>
    have hall := op32_5 t x i z e0 e1 e2 e3 e4 vA vB jA jB L o ho
    have dp : ∀ q, ((ops32[5]?.map fun o => o.after.toList.any fun e => Region.binds .any e && Nat.beq e.on q) = some true) → L q = true := dpq ho
    have g4 : L 4 = true := dp 4 (by decide +kernel)
    show OpT Try.prog o (S32b t x i z e0 e1 e2 e3 e4 vA vB jA jB (L 0) (L 1) (L 2) (L 3) (L 4) (L 5) (L 6) (L 7) (L 8) (L 9) (L 10) (L 11) (L 12) (L 13) (L 14) (L 15) (L 16) (L 17) (L 18) (L 19)) (S32b t x i z e0 e1 e2 e3 e4 vA vB jA jB (L 0) (L 1) (L 2) (L 3) (L 4) true (L 6) (L 7) (L 8) (L 9) (L 10) (L 11) (L 12) (L 13) (L 14) (L 15) (L 16) (L 17) (L 18) (L 19))
    rw [hL, g4]
    exact hall
  | 6, ho, hL =>
    have hall := op32_6 t x i z e0 e1 e2 e3 e4 vA vB jA jB L o ho
    have dp : ∀ q, ((ops32[6]?.map fun o => o.after.toList.any fun e => Region.binds .any e && Nat.beq e.on q) = some true) → L q = true := dpq ho
    have g5 : L 5 = true := dp 5 (by decide +kernel)
    show OpT Try.prog o (S32b t x i z e0 e1 e2 e3 e4 vA vB jA jB (L 0) (L 1) (L 2) (L 3) (L 4) (L 5) (L 6) (L 7) (L 8) (L 9) (L 10) (L 11) (L 12) (L 13) (L 14) (L 15) (L 16) (L 17) (L 18) (L 19)) (S32b t x i z e0 e1 e2 e3 e4 vA vB jA jB (L 0) (L 1) (L 2) (L 3) (L 4) (L 5) true (L 7) (L 8) (L 9) (L 10) (L 11) (L 12) (L 13) (L 14) (L 15) (L 16) (L 17) (L 18) (L 19))
    rw [hL, g5]
    exact hall
  | 7, ho, hL =>
    have hall := op32_7 t x i z e0 e1 e2 e3 e4 vA vB jA jB L o ho
    have dp : ∀ q, ((ops32[7]?.map fun o => o.after.toList.any fun e => Region.binds .any e && Nat.beq e.on q) = some true) → L q = true := dpq ho
    show OpT Try.prog o (S32b t x i z e0 e1 e2 e3 e4 vA vB jA jB (L 0) (L 1) (L 2) (L 3) (L 4) (L 5) (L 6) (L 7) (L 8) (L 9) (L 10) (L 11) (L 12) (L 13) (L 14) (L 15) (L 16) (L 17) (L 18) (L 19)) (S32b t x i z e0 e1 e2 e3 e4 vA vB jA jB (L 0) (L 1) (L 2) (L 3) (L 4) (L 5) (L 6) true (L 8) (L 9) (L 10) (L 11) (L 12) (L 13) (L 14) (L 15) (L 16) (L 17) (L 18) (L 19))
    rw [hL]
    exact hall
  | 8, ho, hL =>
    have hall := op32_8 t x i z e0 e1 e2 e3 e4 vA vB jA jB L o ho
    have dp : ∀ q, ((ops32[8]?.map fun o => o.after.toList.any fun e => Region.binds .any e && Nat.beq e.on q) = some true) → L q = true := dpq ho
    show OpT Try.prog o (S32b t x i z e0 e1 e2 e3 e4 vA vB jA jB (L 0) (L 1) (L 2) (L 3) (L 4) (L 5) (L 6) (L 7) (L 8) (L 9) (L 10) (L 11) (L 12) (L 13) (L 14) (L 15) (L 16) (L 17) (L 18) (L 19)) (S32b t x i z e0 e1 e2 e3 e4 vA vB jA jB (L 0) (L 1) (L 2) (L 3) (L 4) (L 5) (L 6) (L 7) true (L 9) (L 10) (L 11) (L 12) (L 13) (L 14) (L 15) (L 16) (L 17) (L 18) (L 19))
    rw [hL]
    exact hall
  | 9, ho, hL =>
    have hall := op32_9 t x i z e0 e1 e2 e3 e4 vA vB jA jB L o ho
    have dp : ∀ q, ((ops32[9]?.map fun o => o.after.toList.any fun e => Region.binds .any e && Nat.beq e.on q) = some true) → L q = true := dpq ho
    have g8 : L 8 = true := dp 8 (by decide +kernel)
    show OpT Try.prog o (S32b t x i z e0 e1 e2 e3 e4 vA vB jA jB (L 0) (L 1) (L 2) (L 3) (L 4) (L 5) (L 6) (L 7) (L 8) (L 9) (L 10) (L 11) (L 12) (L 13) (L 14) (L 15) (L 16) (L 17) (L 18) (L 19)) (S32b t x i z e0 e1 e2 e3 e4 vA vB jA jB (L 0) (L 1) (L 2) (L 3) (L 4) (L 5) (L 6) (L 7) (L 8) true (L 10) (L 11) (L 12) (L 13) (L 14) (L 15) (L 16) (L 17) (L 18) (L 19))
    rw [hL, g8]
    exact hall
  | 10, ho, hL =>
    have hall := op32_10 t x i z e0 e1 e2 e3 e4 vA vB jA jB L o ho
    have dp : ∀ q, ((ops32[10]?.map fun o => o.after.toList.any fun e => Region.binds .any e && Nat.beq e.on q) = some true) → L q = true := dpq ho
    show OpT Try.prog o (S32b t x i z e0 e1 e2 e3 e4 vA vB jA jB (L 0) (L 1) (L 2) (L 3) (L 4) (L 5) (L 6) (L 7) (L 8) (L 9) (L 10) (L 11) (L 12) (L 13) (L 14) (L 15) (L 16) (L 17) (L 18) (L 19)) (S32b t x i z e0 e1 e2 e3 e4 vA vB jA jB (L 0) (L 1) (L 2) (L 3) (L 4) (L 5) (L 6) (L 7) (L 8) (L 9) true (L 11) (L 12) (L 13) (L 14) (L 15) (L 16) (L 17) (L 18) (L 19))
    rw [hL]
    exact hall
  | 11, ho, hL =>
    have hall := op32_11 t x i z e0 e1 e2 e3 e4 vA vB jA jB L hx hlen o ho
    have dp : ∀ q, ((ops32[11]?.map fun o => o.after.toList.any fun e => Region.binds .any e && Nat.beq e.on q) = some true) → L q = true := dpq ho
    have g9 : L 9 = true := dp 9 (by decide +kernel)
    have g10 : L 10 = true := dp 10 (by decide +kernel)
    show OpT Try.prog o (S32b t x i z e0 e1 e2 e3 e4 vA vB jA jB (L 0) (L 1) (L 2) (L 3) (L 4) (L 5) (L 6) (L 7) (L 8) (L 9) (L 10) (L 11) (L 12) (L 13) (L 14) (L 15) (L 16) (L 17) (L 18) (L 19)) (S32b t x i z e0 e1 e2 e3 e4 vA vB jA jB (L 0) (L 1) (L 2) (L 3) (L 4) (L 5) (L 6) (L 7) (L 8) (L 9) (L 10) true (L 12) (L 13) (L 14) (L 15) (L 16) (L 17) (L 18) (L 19))
    rw [hL, g9, g10]
    exact hall
  | 12, ho, hL =>
    have hall := op32_12 t x i z e0 e1 e2 e3 e4 vA vB jA jB L o ho
    have dp : ∀ q, ((ops32[12]?.map fun o => o.after.toList.any fun e => Region.binds .any e && Nat.beq e.on q) = some true) → L q = true := dpq ho
    have g11 : L 11 = true := dp 11 (by decide +kernel)
    show OpT Try.prog o (S32b t x i z e0 e1 e2 e3 e4 vA vB jA jB (L 0) (L 1) (L 2) (L 3) (L 4) (L 5) (L 6) (L 7) (L 8) (L 9) (L 10) (L 11) (L 12) (L 13) (L 14) (L 15) (L 16) (L 17) (L 18) (L 19)) (S32b t x i z e0 e1 e2 e3 e4 vA vB jA jB (L 0) (L 1) (L 2) (L 3) (L 4) (L 5) (L 6) (L 7) (L 8) (L 9) (L 10) (L 11) true (L 13) (L 14) (L 15) (L 16) (L 17) (L 18) (L 19))
    rw [hL, g11]
    exact hall
  | 13, ho, hL =>
    have hall := op32_13 t x i z e0 e1 e2 e3 e4 vA vB jA jB L o ho
    have dp : ∀ q, ((ops32[13]?.map fun o => o.after.toList.any fun e => Region.binds .any e && Nat.beq e.on q) = some true) → L q = true := dpq ho
    have g12 : L 12 = true := dp 12 (by decide +kernel)
    show OpT Try.prog o (S32b t x i z e0 e1 e2 e3 e4 vA vB jA jB (L 0) (L 1) (L 2) (L 3) (L 4) (L 5) (L 6) (L 7) (L 8) (L 9) (L 10) (L 11) (L 12) (L 13) (L 14) (L 15) (L 16) (L 17) (L 18) (L 19)) (S32b t x i z e0 e1 e2 e3 e4 vA vB jA jB (L 0) (L 1) (L 2) (L 3) (L 4) (L 5) (L 6) (L 7) (L 8) (L 9) (L 10) (L 11) (L 12) true (L 14) (L 15) (L 16) (L 17) (L 18) (L 19))
    rw [hL, g12]
    exact hall
  | 14, ho, hL =>
    have hall := op32_14 t x i z e0 e1 e2 e3 e4 vA vB jA jB L hA o ho
    have dp : ∀ q, ((ops32[14]?.map fun o => o.after.toList.any fun e => Region.binds .any e && Nat.beq e.on q) = some true) → L q = true := dpq ho
    have g0 : L 0 = true := dp 0 (by decide +kernel)
    have g6 : L 6 = true := dp 6 (by decide +kernel)
    have g16 : L 16 = false := by
      cases h : L 16 with
      | false => rfl
      | true => have := c16_14 h; rw [hL] at this; cases this
    have g17 : L 17 = false := by
      cases h : L 17 with
      | false => rfl
      | true => have := c17_14 h; rw [hL] at this; cases this
    have g19 : L 19 = false := by
      cases h : L 19 with
      | false => rfl
      | true => have := c19_14 h; rw [hL] at this; cases this
    show OpT Try.prog o (S32b t x i z e0 e1 e2 e3 e4 vA vB jA jB (L 0) (L 1) (L 2) (L 3) (L 4) (L 5) (L 6) (L 7) (L 8) (L 9) (L 10) (L 11) (L 12) (L 13) (L 14) (L 15) (L 16) (L 17) (L 18) (L 19)) (S32b t x i z e0 e1 e2 e3 e4 vA vB jA jB (L 0) (L 1) (L 2) (L 3) (L 4) (L 5) (L 6) (L 7) (L 8) (L 9) (L 10) (L 11) (L 12) (L 13) true (L 15) (L 16) (L 17) (L 18) (L 19))
    rw [hL, g0, g6, g16, g17, g19]
    exact hall
  | 15, ho, hL =>
    have hall := op32_15 t x i z e0 e1 e2 e3 e4 vA vB jA jB L o ho
    have dp : ∀ q, ((ops32[15]?.map fun o => o.after.toList.any fun e => Region.binds .any e && Nat.beq e.on q) = some true) → L q = true := dpq ho
    have g14 : L 14 = true := dp 14 (by decide +kernel)
    show OpT Try.prog o (S32b t x i z e0 e1 e2 e3 e4 vA vB jA jB (L 0) (L 1) (L 2) (L 3) (L 4) (L 5) (L 6) (L 7) (L 8) (L 9) (L 10) (L 11) (L 12) (L 13) (L 14) (L 15) (L 16) (L 17) (L 18) (L 19)) (S32b t x i z e0 e1 e2 e3 e4 vA vB jA jB (L 0) (L 1) (L 2) (L 3) (L 4) (L 5) (L 6) (L 7) (L 8) (L 9) (L 10) (L 11) (L 12) (L 13) (L 14) true (L 16) (L 17) (L 18) (L 19))
    rw [hL, g14]
    exact hall
  | 16, ho, hL =>
    have hall := op32_16 t x i z e0 e1 e2 e3 e4 vA vB jA jB L h2 h2e o ho
    have dp : ∀ q, ((ops32[16]?.map fun o => o.after.toList.any fun e => Region.binds .any e && Nat.beq e.on q) = some true) → L q = true := dpq ho
    have g0 : L 0 = true := dp 0 (by decide +kernel)
    have g15 : L 15 = true := dp 15 (by decide +kernel)
    have g14 : L 14 = true := dp 14 (by decide +kernel)
    have g17 : L 17 = false := by
      cases h : L 17 with
      | false => rfl
      | true => have := c17_16 h; rw [hL] at this; cases this
    have g19 : L 19 = false := by
      cases h : L 19 with
      | false => rfl
      | true => have := c19_16 h; rw [hL] at this; cases this
    show OpT Try.prog o (S32b t x i z e0 e1 e2 e3 e4 vA vB jA jB (L 0) (L 1) (L 2) (L 3) (L 4) (L 5) (L 6) (L 7) (L 8) (L 9) (L 10) (L 11) (L 12) (L 13) (L 14) (L 15) (L 16) (L 17) (L 18) (L 19)) (S32b t x i z e0 e1 e2 e3 e4 vA vB jA jB (L 0) (L 1) (L 2) (L 3) (L 4) (L 5) (L 6) (L 7) (L 8) (L 9) (L 10) (L 11) (L 12) (L 13) (L 14) (L 15) true (L 17) (L 18) (L 19))
    rw [hL, g0, g15, g14, g17, g19]
    exact hall
  | 17, ho, hL =>
    have hall := op32_17 t x i z e0 e1 e2 e3 e4 vA vB jA jB L hB o ho
    have dp : ∀ q, ((ops32[17]?.map fun o => o.after.toList.any fun e => Region.binds .any e && Nat.beq e.on q) = some true) → L q = true := dpq ho
    have g7 : L 7 = true := dp 7 (by decide +kernel)
    have g13 : L 13 = true := dp 13 (by decide +kernel)
    have g16 : L 16 = true := dp 16 (by decide +kernel)
    have g14 : L 14 = true := dp 14 (by decide +kernel)
    have g19 : L 19 = false := by
      cases h : L 19 with
      | false => rfl
      | true => have := c19_17 h; rw [hL] at this; cases this
    show OpT Try.prog o (S32b t x i z e0 e1 e2 e3 e4 vA vB jA jB (L 0) (L 1) (L 2) (L 3) (L 4) (L 5) (L 6) (L 7) (L 8) (L 9) (L 10) (L 11) (L 12) (L 13) (L 14) (L 15) (L 16) (L 17) (L 18) (L 19)) (S32b t x i z e0 e1 e2 e3 e4 vA vB jA jB (L 0) (L 1) (L 2) (L 3) (L 4) (L 5) (L 6) (L 7) (L 8) (L 9) (L 10) (L 11) (L 12) (L 13) (L 14) (L 15) (L 16) true (L 18) (L 19))
    rw [hL, g7, g13, g16, g14, g19]
    exact hall
  | 18, ho, hL =>
    have hall := op32_18 t x i z e0 e1 e2 e3 e4 vA vB jA jB L o ho
    have dp : ∀ q, ((ops32[18]?.map fun o => o.after.toList.any fun e => Region.binds .any e && Nat.beq e.on q) = some true) → L q = true := dpq ho
    have g17 : L 17 = true := dp 17 (by decide +kernel)
    show OpT Try.prog o (S32b t x i z e0 e1 e2 e3 e4 vA vB jA jB (L 0) (L 1) (L 2) (L 3) (L 4) (L 5) (L 6) (L 7) (L 8) (L 9) (L 10) (L 11) (L 12) (L 13) (L 14) (L 15) (L 16) (L 17) (L 18) (L 19)) (S32b t x i z e0 e1 e2 e3 e4 vA vB jA jB (L 0) (L 1) (L 2) (L 3) (L 4) (L 5) (L 6) (L 7) (L 8) (L 9) (L 10) (L 11) (L 12) (L 13) (L 14) (L 15) (L 16) (L 17) true (L 19))
    rw [hL, g17]
    exact hall
  | 19, ho, hL =>
    have hall := op32_19 t x i z e0 e1 e2 e3 e4 vA vB jA jB L h4 h4e o ho
    have dp : ∀ q, ((ops32[19]?.map fun o => o.after.toList.any fun e => Region.binds .any e && Nat.beq e.on q) = some true) → L q = true := dpq ho
    have g7 : L 7 = true := dp 7 (by decide +kernel)
    have g18 : L 18 = true := dp 18 (by decide +kernel)
    have g17 : L 17 = true := dp 17 (by decide +kernel)
    have g16 : L 16 = true := dp 16 (by decide +kernel)
    have g14 : L 14 = true := dp 14 (by decide +kernel)
    show OpT Try.prog o (S32b t x i z e0 e1 e2 e3 e4 vA vB jA jB (L 0) (L 1) (L 2) (L 3) (L 4) (L 5) (L 6) (L 7) (L 8) (L 9) (L 10) (L 11) (L 12) (L 13) (L 14) (L 15) (L 16) (L 17) (L 18) (L 19)) (S32b t x i z e0 e1 e2 e3 e4 vA vB jA jB (L 0) (L 1) (L 2) (L 3) (L 4) (L 5) (L 6) (L 7) (L 8) (L 9) (L 10) (L 11) (L 12) (L 13) (L 14) (L 15) (L 16) (L 17) (L 18) true)
    rw [hL, g7, g18, g17, g16, g14]
    exact hall
  | j + 20, ho, _ =>
    have hs : ops32.size = 20 := by kernel_rfl
    have := (Array.getElem?_eq_some_iff.1 ho).1
    omega
end
end Go.Proofs.Ytmcdnbmamoggoaa

/-
  The law: TapeShares.
-/
namespace Go.Proofs.Ytmcdnbmamoggoaa
open Go Go.Sx
set_option maxRecDepth 100000
set_option maxHeartbeats 8000000
noncomputable def body9 : Code := Try.f9.body.getD .skip
/-- What is marked when the operations from the n-th on have been gone through. -/
def Mk (t : Tp) (n : Nat) (es : List (Int × Bool)) : Prop := (∀ z ∈ t.outs, mgI z es = true) ∧ ∀ (j : Nat) (o : TOp), n ≤ j → t.ops[j]? = some o → ∀ z, useB o z → mgI z es = true
theorem nodup_take {l : List TOp} (h : l.Nodup) {i : Nat} {x : TOp} (hx : l[i]? = some x) : x ∉ l.take i := fun hm => by
  obtain ⟨j, hj⟩ := List.getElem?_of_mem hm
  have hjl := (List.getElem?_eq_some_iff.1 hj).1
  rw [List.length_take] at hjl
  rw [List.getElem?_take_of_lt (by omega)] at hj
  have h1 := (List.getElem?_eq_some_iff.1 hj).2
  have h2 := (List.getElem?_eq_some_iff.1 hx).2
  have hl2 := (List.getElem?_eq_some_iff.1 hx).1
  have := (List.getElem_inj h (h₀ := by omega) (h₁ := hl2)).1 (h1.trans h2.symm)
  omega
theorem f9 (l : List Ex) (ns : List Bytes) (hl : ∀ x ∈ l, Sm x) (hll : l.length < 9223372036854775808) (hns : ∀ x ∈ ns, x.length < 9223372036854775808) (hnl : ns.length < 9223372036854775808) : Fn 9 [] [.sl .ex l, .sl .str ns] (.bool true) [] := by
  obtain ⟨A, hA⟩ : ∃ A, cpE l ns = A := ⟨_, rfl⟩
  have h46 := f46 l ns hl hll hns hnl
  rw [hA] at h46
  obtain ⟨t, err⟩ := A
  have h46 : Fn 46 [] [.sl .ex l, .sl .str ns] (.tup [.agg (tpC t), .int .i64 err]) [] := h46
  refine fnC_sound (code := body9) hT2 hmx Try.func9 rfl rfl (ex := []) ?_
  conv => whnf
  refine sem_cut hT2 hmx 9 (fun x : { es : List (Int × Bool) // cpE l ns = (t, 0) ∧ l.length ≤ 8 ∧ ∀ z ∈ t.outs, mgI z es = true } => ⟨[.any, .any, .any, .any, .any, .ptr 5 0, .any, .int .i64 (sizL l), .any, .any, .mp 37] ++ anys 107,
    [(5, .cells (tpC t)), (9, .free), (37, .map .int .bool x.1)]⟩) (fun _ => by kernel_rfl) ?_ (fun hx => ?_)
  rotate_left
  · obtain ⟨es0, hc, hl8, hes0⟩ := hx
    obtain ⟨g1, g2, g3, g4, g5, g6⟩ := back_law hc
    obtain ⟨s1, s2, s3⟩ := share_law hc
    obtain ⟨⟨v1, v2, v3, v4⟩, v5, v6⟩ := tvB_spec g1
    have hsz := sizL_le g3
    refine sem_end4 hT2 hmx [32] ?_
    conv => whnf
    refine ⟨Nat × List (Int × Bool), fun x => x.1 ≤ t.ops.length ∧ Mk t x.1 x.2, fun x => [(13, .int .i64 ((x.1 : Int) - 1)), (48, .any), (49, .any), (50, .any), (51, .any)], fun x => [(37, .map .int .bool x.2)], fun x => x.1, (t.ops.length, es0), ⟨by simp, hes0, fun j o h1 h2 => ?_⟩, ?_, fun x hx => ?_⟩
    · have := (List.getElem?_eq_some_iff.1 h2).1
      omega
    · ((conv => whnf); refine And.intro ?_ ?_; repeat' first | refine leL_cons ?_ ?_ | exact leA_any | exact leA_refl rfl | exact leL_nil | refine leH_cons ?_ ?_ | exact leH_nil | exact leB_free | exact leB_dead | refine leB_cells ?_ | exact leB_map rfl | exact leB_buf rfl | exact leB_gst rfl | exact leA_nil rfl | refine leA_agg ?_ | refine leA_tup ?_ | fail)
      all_goals exact leA_int (by rw [wI (by omega)])
    (refine ⟨by kernel_rfl, ?_⟩; (conv => whnf))
    obtain ⟨n, es⟩ := x
    obtain ⟨hn1, hn2, hn3⟩ := hx
    simp only at hn1 hn2 hn3
    refine brI (fun h7 => ?_) (fun h7 => ?_)
    · have h7 : 0 < n := by simp only [decide_eq_true_eq] at h7; omega
      obtain ⟨i, rfl⟩ : ∃ i, n = i + 1 := ⟨n - 1, by omega⟩
      obtain ⟨x, hx⟩ : ∃ x, t.ops[i]? = some x := ⟨_, List.getElem?_eq_getElem (by omega)⟩
      have hnx : x ∉ t.ops.take i := nodup_take s1 hx
      have h47 := f47 (t.ops.take i) x hnx (by rw [List.length_take]; omega)
      have hmk : mgI (t.ins + i) es = true := by
        rcases s2 i (by omega) (by omega) with h | ⟨j', o, h8, h9, h10⟩
        · exact hn2 _ h
        · exact hn3 j' o (by omega) h9 _ h10
      have hnext : ∀ es', (∀ z, mgI z es = true → mgI z es' = true) → (∀ z, useB x z → mgI z es' = true) → i ≤ t.ops.length ∧ Mk t i es' := fun es' h1 h2 => ⟨by omega, fun z hz => h1 z (hn2 z hz), fun j o hj ho z hz => by
        by_cases e : j = i
        · subst e
          rw [hx] at ho; cases ho
          exact h2 z hz
        · exact h1 z (hn3 j o (by omega) ho z hz)⟩
      conv => whnf
      rw [show ((((i + 1, es) : Nat × List (Int × Bool)).fst : Nat) : Int) - 1 = (i : Int) from by simp]
      refine ⟨⟨by omega, by omega, by omega⟩, ?_⟩
      conv => whnf
      refine ⟨⟨by omega, by omega⟩, fun (y : TOp) hy => ?_⟩
      have hy : t.ops[i]? = some y := by simpa using hy
      rw [hx] at hy
      cases hy
      conv => whnf
      refine ⟨[], _, h47, ?_⟩
      conv => whnf
      (refine ⟨by kernel_rfl, by kernel_rfl, ?_⟩; (conv => whnf))
      refine brI (fun h => ?_) (fun _ => ?_)
      · exfalso
        have h : (!(mgI (IntKind.i64.wrap (t.ins + (i : Int))) es)) = true := h
        rw [wI (by omega), hmk] at h
        cases h
      conv => whnf
      refine ⟨⟨by omega, by omega⟩, fun (y : TOp) hy => ?_⟩
      have hy : t.ops[i]? = some y := by simpa using hy
      rw [hx] at hy
      cases hy
      conv => whnf
      obtain ⟨⟨e1, vA, jA⟩, hA⟩ : ∃ r, entM x.a es = r := ⟨_, rfl⟩
      obtain ⟨hA1, hA2⟩ := entM_put hA
      obtain ⟨⟨e3, vB, jB⟩, hB⟩ : ∃ r, entM x.b (mpI x.a true es) = r := ⟨_, rfl⟩
      obtain ⟨hB1, hB2⟩ := entM_put hB
      refine brI (fun h8 => ?_) (fun h8 => ?_)
      · have h8 : x.k = 1 := by simpa using h8
        conv => whnf
        refine ⟨(i, es), hnext es (fun z h => h) (fun z hz => absurd h8 hz.1), by show i < i + 1; omega, ?_⟩
        ((conv => whnf); refine And.intro ?_ ?_; repeat' first | refine leL_cons ?_ ?_ | exact leA_any | exact leA_refl rfl | exact leL_nil | refine leH_cons ?_ ?_ | exact leH_nil | exact leB_free | exact leB_dead | refine leB_cells ?_ | exact leB_map rfl | exact leB_buf rfl | exact leB_gst rfl | exact leA_nil rfl | refine leA_agg ?_ | refine leA_tup ?_ | fail)
        all_goals exact leA_int (show IntKind.i64.wrap ((i : Int) - 1) = (i : Int) - 1 from wI (by omega))
      have h8 : ¬ x.k = 1 := by simpa using h8
      conv => whnf
      refine brI (fun h13 => ?_) (fun h13 => ?_)
      · conv => whnf
        refine brI (fun _ => ?_) (fun h => nomatch (h13.symm.trans h))
        conv => whnf
        refine tri_drawF hmx (S32 t x i (sizL l) es e1 (mpI x.a true es) e3 (mpI x.b true (mpI x.a true es)) vA vB jA jB) (by kernel_rfl) ?_ (by kernel_rfl) (fun L => step32 t x i (sizL l) es e1 _ e3 _ vA vB jA jB L hx (by omega) hA hA2 hA1.symm hB hB2 hB1.symm) ?_
        · ((conv => whnf); refine And.intro ?_ ?_; repeat' first | refine leL_cons ?_ ?_ | exact leA_any | exact leA_refl rfl | exact leL_nil | refine leH_cons ?_ ?_ | exact leH_nil | exact leB_free | exact leB_dead | refine leB_cells ?_ | exact leB_map rfl | exact leB_buf rfl | exact leB_gst rfl | exact leA_nil rfl | refine leA_agg ?_ | refine leA_tup ?_ | fail)
        · conv => whnf
          refine ⟨(i, mpI x.b true (mpI x.a true es)), hnext _ (fun z h => mgI_put (.inr (mgI_put (.inr h)))) (fun z hz => ?_), by show i < i + 1; omega, ?_⟩
          · rcases hz.2 with hz | ⟨_, hz⟩
            · exact mgI_put (.inr (mgI_put (.inl hz.symm)))
            · exact mgI_put (.inl hz.symm)
          · ((conv => whnf); refine And.intro ?_ ?_; repeat' first | refine leL_cons ?_ ?_ | exact leA_any | exact leA_refl rfl | exact leL_nil | refine leH_cons ?_ ?_ | exact leH_nil | exact leB_free | exact leB_dead | refine leB_cells ?_ | exact leB_map rfl | exact leB_buf rfl | exact leB_gst rfl | exact leA_nil rfl | refine leA_agg ?_ | refine leA_tup ?_ | fail)
            all_goals exact leA_int (show IntKind.i64.wrap ((i : Int) - 1) = (i : Int) - 1 from wI (by omega))
      have h13 : ¬ x.k = 3 := by simpa using h13
      conv => whnf
      refine brI (fun h14 => ?_) (fun h14 => ?_)
      · conv => whnf
        refine brI (fun _ => ?_) (fun h => nomatch (h14.symm.trans h))
        conv => whnf
        refine tri_drawF hmx (S32 t x i (sizL l) es e1 (mpI x.a true es) e3 (mpI x.b true (mpI x.a true es)) vA vB jA jB) (by kernel_rfl) ?_ (by kernel_rfl) (fun L => step32 t x i (sizL l) es e1 _ e3 _ vA vB jA jB L hx (by omega) hA hA2 hA1.symm hB hB2 hB1.symm) ?_
        · ((conv => whnf); refine And.intro ?_ ?_; repeat' first | refine leL_cons ?_ ?_ | exact leA_any | exact leA_refl rfl | exact leL_nil | refine leH_cons ?_ ?_ | exact leH_nil | exact leB_free | exact leB_dead | refine leB_cells ?_ | exact leB_map rfl | exact leB_buf rfl | exact leB_gst rfl | exact leA_nil rfl | refine leA_agg ?_ | refine leA_tup ?_ | fail)
        · conv => whnf
          refine ⟨(i, mpI x.b true (mpI x.a true es)), hnext _ (fun z h => mgI_put (.inr (mgI_put (.inr h)))) (fun z hz => ?_), by show i < i + 1; omega, ?_⟩
          · rcases hz.2 with hz | ⟨_, hz⟩
            · exact mgI_put (.inr (mgI_put (.inl hz.symm)))
            · exact mgI_put (.inl hz.symm)
          · ((conv => whnf); refine And.intro ?_ ?_; repeat' first | refine leL_cons ?_ ?_ | exact leA_any | exact leA_refl rfl | exact leL_nil | refine leH_cons ?_ ?_ | exact leH_nil | exact leB_free | exact leB_dead | refine leB_cells ?_ | exact leB_map rfl | exact leB_buf rfl | exact leB_gst rfl | exact leA_nil rfl | refine leA_agg ?_ | refine leA_tup ?_ | fail)
            all_goals exact leA_int (show IntKind.i64.wrap ((i : Int) - 1) = (i : Int) - 1 from wI (by omega))
      have h14 : ¬ x.k = 4 := by simpa using h14
      conv => whnf
      refine brI (fun h15 => ?_) (fun h15 => ?_)
      · conv => whnf
        refine brI (fun _ => ?_) (fun h => nomatch (h15.symm.trans h))
        conv => whnf
        refine tri_drawF hmx (S32 t x i (sizL l) es e1 (mpI x.a true es) e3 (mpI x.b true (mpI x.a true es)) vA vB jA jB) (by kernel_rfl) ?_ (by kernel_rfl) (fun L => step32 t x i (sizL l) es e1 _ e3 _ vA vB jA jB L hx (by omega) hA hA2 hA1.symm hB hB2 hB1.symm) ?_
        · ((conv => whnf); refine And.intro ?_ ?_; repeat' first | refine leL_cons ?_ ?_ | exact leA_any | exact leA_refl rfl | exact leL_nil | refine leH_cons ?_ ?_ | exact leH_nil | exact leB_free | exact leB_dead | refine leB_cells ?_ | exact leB_map rfl | exact leB_buf rfl | exact leB_gst rfl | exact leA_nil rfl | refine leA_agg ?_ | refine leA_tup ?_ | fail)
        · conv => whnf
          refine ⟨(i, mpI x.b true (mpI x.a true es)), hnext _ (fun z h => mgI_put (.inr (mgI_put (.inr h)))) (fun z hz => ?_), by show i < i + 1; omega, ?_⟩
          · rcases hz.2 with hz | ⟨_, hz⟩
            · exact mgI_put (.inr (mgI_put (.inl hz.symm)))
            · exact mgI_put (.inl hz.symm)
          · ((conv => whnf); refine And.intro ?_ ?_; repeat' first | refine leL_cons ?_ ?_ | exact leA_any | exact leA_refl rfl | exact leL_nil | refine leH_cons ?_ ?_ | exact leH_nil | exact leB_free | exact leB_dead | refine leB_cells ?_ | exact leB_map rfl | exact leB_buf rfl | exact leB_gst rfl | exact leA_nil rfl | refine leA_agg ?_ | refine leA_tup ?_ | fail)
            all_goals exact leA_int (show IntKind.i64.wrap ((i : Int) - 1) = (i : Int) - 1 from wI (by omega))
      have h15 : ¬ x.k = 5 := by simpa using h15
      conv => whnf
      refine brI (fun h16 => ?_) (fun h16 => ?_)
      · conv => whnf
        refine tri_drawF hmx (S32 t x i (sizL l) es e1 (mpI x.a true es) e3 (mpI x.b true (mpI x.a true es)) vA vB jA jB) (by kernel_rfl) ?_ (by kernel_rfl) (fun L => step32 t x i (sizL l) es e1 _ e3 _ vA vB jA jB L hx (by omega) hA hA2 hA1.symm hB hB2 hB1.symm) ?_
        · ((conv => whnf); refine And.intro ?_ ?_; repeat' first | refine leL_cons ?_ ?_ | exact leA_any | exact leA_refl rfl | exact leL_nil | refine leH_cons ?_ ?_ | exact leH_nil | exact leB_free | exact leB_dead | refine leB_cells ?_ | exact leB_map rfl | exact leB_buf rfl | exact leB_gst rfl | exact leA_nil rfl | refine leA_agg ?_ | refine leA_tup ?_ | fail)
        · conv => whnf
          refine ⟨(i, mpI x.b true (mpI x.a true es)), hnext _ (fun z h => mgI_put (.inr (mgI_put (.inr h)))) (fun z hz => ?_), by show i < i + 1; omega, ?_⟩
          · rcases hz.2 with hz | ⟨_, hz⟩
            · exact mgI_put (.inr (mgI_put (.inl hz.symm)))
            · exact mgI_put (.inl hz.symm)
          · ((conv => whnf); refine And.intro ?_ ?_; repeat' first | refine leL_cons ?_ ?_ | exact leA_any | exact leA_refl rfl | exact leL_nil | refine leH_cons ?_ ?_ | exact leH_nil | exact leB_free | exact leB_dead | refine leB_cells ?_ | exact leB_map rfl | exact leB_buf rfl | exact leB_gst rfl | exact leA_nil rfl | refine leA_agg ?_ | refine leA_tup ?_ | fail)
            all_goals exact leA_int (show IntKind.i64.wrap ((i : Int) - 1) = (i : Int) - 1 from wI (by omega))
      have h16 : ¬ x.k = 6 := by simpa using h16
      conv => whnf
      refine ⟨⟨by omega, by omega⟩, fun (y : TOp) hy => ?_⟩
      have hy : t.ops[i]? = some y := by simpa using hy
      rw [hx] at hy
      cases hy
      conv => whnf
      refine ⟨(i, mpI x.a true es), hnext _ (fun z h => mgI_put (.inr h)) (fun z hz => ?_), by show i < i + 1; omega, ?_⟩
      · rcases hz.2 with hz | ⟨hz, _⟩
        · exact mgI_put (.inl hz.symm)
        · omega
      · ((conv => whnf); refine And.intro ?_ ?_; repeat' first | refine leL_cons ?_ ?_ | exact leA_any | exact leA_refl rfl | exact leL_nil | refine leH_cons ?_ ?_ | exact leH_nil | exact leB_free | exact leB_dead | refine leB_cells ?_ | exact leB_map rfl | exact leB_buf rfl | exact leB_gst rfl | exact leA_nil rfl | refine leA_agg ?_ | refine leA_tup ?_ | fail)
        all_goals exact leA_int (show IntKind.i64.wrap ((i : Int) - 1) = (i : Int) - 1 from wI (by omega))
    · conv => whnf
      exact ⟨leA_bool (decide_eq_true (by omega)), leH_nil⟩
  conv => whnf
  refine ⟨[], _, f40, ?_⟩
  conv => whnf
  refine cbI [] _ (f45 l) (fun _ => ?_) (fun h1 => ?_)
  · conv => whnf
    exact ⟨leA_refl rfl, leH_nil⟩
  conv => whnf
  refine ⟨[], _, h46, ?_⟩
  conv => whnf
  refine brI (fun _ => ?_) (fun h => ?_)
  · conv => whnf
    exact ⟨leA_refl rfl, leH_nil⟩
  have h2 : err = 0 := by simpa using h
  subst h2
  have hl8 : l.length ≤ 8 := by
    have h1 : ¬ (8 < l.length ∧ l.length ≤ 200) := by simpa using h1
    have := cp_len hA
    omega
  obtain ⟨g1, g2, g3, g4, g5, g6⟩ := back_law hA
  obtain ⟨⟨v1, v2, v3, v4⟩, v5, v6⟩ := tvB_spec g1
  clear h1 h
  conv => whnf
  refine ⟨Nat, fun i => i ≤ l.length, fun i => [(28, .int .i64 i), (7, .int .i64 (sizL (l.take i)))], fun i => [], fun i => l.length - i, 0, by omega, ?_, fun i hi => ?_⟩
  · ((conv => whnf); refine And.intro ?_ ?_; repeat' first | refine leL_cons ?_ ?_ | exact leA_any | exact leA_refl rfl | exact leL_nil | refine leH_cons ?_ ?_ | exact leH_nil | exact leB_free | exact leB_dead | refine leB_cells ?_ | exact leB_map rfl | exact leB_gst rfl | exact leA_nil rfl | refine leA_agg ?_ | refine leA_tup ?_ | fail)
  (refine ⟨by kernel_rfl, ?_⟩; (conv => whnf))
  have hi : i ≤ l.length := hi
  refine brI (fun h3 => ?_) (fun h3 => ?_)
  · have h3 : i < l.length := by simp only [decide_eq_true_eq] at h3; omega
    conv => whnf
    refine ⟨⟨by omega, by omega⟩, fun x hx => ?_⟩
    have hx : l[i]? = some x := by simpa using hx
    have hm := List.mem_of_getElem? hx
    have h27 := f27 x (hl x hm)
    rw [show szN x = sizE x by unfold szN; rw [if_pos (g3 x hm)]] at h27
    have hs1 := sizL_le (l := l.take i) fun y hy => g3 y (List.mem_of_mem_take hy)
    rw [List.length_take] at hs1
    have hs2 := ((okT_iff x).1 (g3 x hm)).2.2
    conv => whnf
    refine ⟨[], .int .i64 (sizE x), ?_, ?_⟩
    · cases x; exact h27
    conv => whnf
    refine ⟨i + 1, by omega, by show l.length - (i + 1) < l.length - i; omega, ?_⟩
    ((conv => whnf); refine And.intro ?_ ?_; repeat' first | refine leL_cons ?_ ?_ | exact leA_any | exact leA_refl rfl | exact leL_nil | refine leH_cons ?_ ?_ | exact leH_nil | exact leB_free | exact leB_dead | refine leB_cells ?_ | exact leB_map rfl | exact leB_gst rfl | exact leA_nil rfl | refine leA_agg ?_ | refine leA_tup ?_ | fail)
    · exact leA_int (by
        rw [List.take_add_one, hx]
        simp only [Option.toList_some, sizL_snoc]
        rw [wI (by omega)]; omega)
    · exact leA_int (by rw [wI (by omega)]; omega)
  have h3 : i = l.length := by simp only [decide_eq_false_iff_not] at h3; omega
  subst h3
  rw [List.take_length]
  conv => whnf
  refine ⟨Nat × List (Int × Bool), fun x => x.1 ≤ t.outs.length ∧ ∀ z ∈ t.outs.take x.1, mgI z x.2 = true, fun x => [(41, .int .i64 x.1)], fun x => [(37, .map .int .bool x.2)], fun x => t.outs.length - x.1, (0, []), ⟨by simp, by simp⟩, ?_, fun x hx => ?_⟩
  · ((conv => whnf); refine And.intro ?_ ?_; repeat' first | refine leL_cons ?_ ?_ | exact leA_any | exact leA_refl rfl | exact leL_nil | refine leH_cons ?_ ?_ | exact leH_nil | exact leB_free | exact leB_dead | refine leB_cells ?_ | exact leB_map rfl | exact leB_buf rfl | exact leB_gst rfl | exact leA_nil rfl | refine leA_agg ?_ | refine leA_tup ?_ | fail)
  (refine ⟨by kernel_rfl, ?_⟩; (conv => whnf))
  obtain ⟨j, es⟩ := x
  obtain ⟨hj1, hj2⟩ := hx
  simp only at hj1 hj2
  refine brI (fun h4 => ?_) (fun h4 => ?_)
  · have h4 : j < t.outs.length := by
      have h4 : decide ((j : Int) < (t.outs.length : Int)) = true := h4
      simp only [decide_eq_true_eq] at h4; omega
    conv => whnf
    refine ⟨⟨by omega, by omega⟩, fun k hk => ?_⟩
    have hk : t.outs[j]? = some k := by simpa using hk
    conv => whnf
    refine ⟨(j + 1, mpI k true es), ⟨by show j + 1 ≤ _; omega, fun z hz => ?_⟩, by show t.outs.length - (j + 1) < t.outs.length - j; omega, ?_⟩
    · have hz : z ∈ t.outs.take (j + 1) := hz
      rw [List.take_add_one, hk] at hz
      rcases List.mem_append.1 hz with hz | hz
      · exact mgI_put (.inr (hj2 z hz))
      · exact mgI_put (.inl (by simpa using hz))
    · ((conv => whnf); refine And.intro ?_ ?_; repeat' first | refine leL_cons ?_ ?_ | exact leA_any | exact leA_refl rfl | exact leL_nil | refine leH_cons ?_ ?_ | exact leH_nil | exact leB_free | exact leB_dead | refine leB_cells ?_ | exact leB_map rfl | exact leB_buf rfl | exact leB_gst rfl | exact leA_nil rfl | refine leA_agg ?_ | refine leA_tup ?_ | fail)
      · exact leA_int (by rw [wI (by simp only; omega)]; simp only; omega)
  have h4 : j = t.outs.length := by
    have h4 : decide ((j : Int) < (t.outs.length : Int)) = false := h4
    simp only [decide_eq_false_iff_not] at h4; omega
  subst h4
  rw [List.take_length] at hj2
  conv => whnf
  refine ⟨⟨es, hA, hl8, hj2⟩, ?_⟩
  ((conv => whnf); refine And.intro ?_ ?_; repeat' first | refine leL_cons ?_ ?_ | exact leA_any | exact leA_refl rfl | exact leL_nil | refine leH_cons ?_ ?_ | exact leH_nil | exact leB_free | exact leB_dead | refine leB_cells ?_ | exact leB_map rfl | exact leB_buf rfl | exact leB_gst rfl | exact leA_nil rfl | refine leA_agg ?_ | refine leA_tup ?_ | fail)
end Go.Proofs.Ytmcdnbmamoggoaa
