/-
  Simple trees: they are their own simple forms, and so are their derivatives.
-/
import Derived.Test.YtmcdnbmamoggoaaQVa
set_option linter.unusedVariables false
set_option linter.unusedSimpArgs false
namespace Go.Proofs.Ytmcdnbmamoggoaa
open Go Go.Sx
/-- A tree that is simple. -/
inductive SP : Ex → Prop
  | num (r : Rt) : rOk r = true → SP (ratE r)
  | var (s : Bytes) : nameB s = true → SP (varE s)
  | un (k : Int) (a : Ex) : K1 k → SP a → op1 k 0 a = opE k 0 [a] → SP (opE k 0 [a])
  | pow (n : Int) (a : Ex) : 0 ≤ n → n ≤ 16 → SP a → op1 8 n a = opE 8 n [a] → SP (opE 8 n [a])
  | bin (k : Int) (a b : Ex) : K2 k → SP a → SP b → op2 k a b = opE k 0 [a, b] → SP (opE k 0 [a, b])
theorem SP_VT {e : Ex} (h : SP e) : VT e := by
  induction h with
  | num r hr => exact VT.num r hr
  | var s hs => exact VT.var s hs
  | un k a hk _ _ ih => exact VT.un k a hk ih
  | pow n a h1 h2 _ _ ih => exact VT.pow n a h1 h2 ih
  | bin k a b hk _ _ _ ih1 ih2 => exact VT.bin k a b hk ih1 ih2
theorem sim_SP {e : Ex} (h : SP e) : simE e = e := by
  induction h with
  | num r hr => exact sim_rat r
  | var s hs => exact sim_var s
  | un k a hk _ ho ih => rw [sim_one a (K1_ne hk), ih, ho]
  | pow n a h1 h2 _ ho ih => rw [sim_one a (by omega), ih, ho]
  | bin k a b hk _ _ ho ih1 ih2 => rw [sim_two a b (K2_ne hk), ih1, ih2, ho]
theorem opE_inj {k k' n n' : Int} {l l' : List Ex} (h : opE k n l = opE k' n' l') : k = k' ∧ n = n' ∧ l = l' := by
  simp only [opE, Ex.mk.injEq] at h; exact ⟨h.1, h.2.2.2.1, h.2.2.2.2⟩
theorem SP_neg {x : Ex} (h : SP (opE 7 0 [x])) : SP x := by
  generalize he : opE 7 0 [x] = e at h
  cases h with
  | num r hr => simp [opE, ratE] at he
  | var s hs => simp [opE, varE] at he
  | un k a hk ha ho => obtain ⟨_, _, h3⟩ := opE_inj he; simp at h3; rw [h3]; exact ha
  | pow n a h1 h2 ha ho => obtain ⟨h3, _, _⟩ := opE_inj he; omega
  | bin k a b hk ha hb ho => obtain ⟨_, _, h3⟩ := opE_inj he; simp at h3
theorem SP_op1 {k n : Int} {a : Ex} (hk : (K1 k ∧ n = 0) ∨ (k = 8 ∧ 0 ≤ n ∧ n ≤ 16)) (ha : SP a) : SP (op1 k n a) := by
  rcases op1_cases k n a (SP_VT ha) with ⟨r, hr, e⟩ | e | ⟨_, _, e⟩ | ⟨x, hx, _, ha', e⟩
  · rw [e]; exact SP.num r hr
  · rw [e]
    rcases hk with ⟨hk, rfl⟩ | ⟨rfl, h1, h2⟩
    · exact SP.un k a hk ha e
    · exact SP.pow n a h1 h2 ha e
  · rw [e]; exact ha
  · rw [e]; rw [ha'] at ha; exact SP_neg ha
theorem SP_op2 {k : Int} {a b : Ex} (hk : K2 k) (ha : SP a) (hb : SP b) : SP (op2 k a b) := by
  rcases op2_cases k a b with ⟨r, hr, e⟩ | e | e | e | ⟨_, e⟩
  · rw [e]; exact SP.num r hr
  · rw [e]; exact SP.bin k a b hk ha hb e
  · rw [e]; exact ha
  · rw [e]; exact hb
  · rw [e]; exact SP_op1 (.inl ⟨.inl rfl, rfl⟩) hb
theorem SP_sim {e : Ex} (h : VT e) : SP (simE e) := by
  induction h with
  | num r hr => rw [sim_rat]; exact SP.num r hr
  | var s hs => rw [sim_var]; exact SP.var s hs
  | un k a hk _ ih => rw [sim_one a (K1_ne hk)]; exact SP_op1 (.inl ⟨hk, rfl⟩) ih
  | pow n a h1 h2 _ ih => rw [sim_one a (by omega)]; exact SP_op1 (.inr ⟨rfl, h1, h2⟩) ih
  | bin k a b hk _ _ ih1 ih2 => rw [sim_two a b (K2_ne hk)]; exact SP_op2 hk ih1 ih2
theorem SP_num {n : Int} (h : -1073741824 ≤ n ∧ n ≤ 1073741824) : SP (numE n) := SP.num ⟨n, 1⟩ (rOk_one h)
theorem SP_dif1 {k n : Int} {a x : Ex} (hk : (K1 k ∧ n = 0) ∨ (k = 8 ∧ 0 ≤ n ∧ n ≤ 16)) (ha : SP a) (hx : SP x) : SP (dif1 k n a x) := by
  have two : ∀ k : Int, K2 k → ∀ a b, SP a → SP b → SP (op2 k a b) := fun k hk a b ha hb => SP_op2 hk ha hb
  have one : ∀ k : Int, K1 k → ∀ a, SP a → SP (op1 k 0 a) := fun k hk a ha => SP_op1 (.inl ⟨hk, rfl⟩) ha
  unfold dif1
  split
  · exact one 7 (by unfold K1; omega) x hx
  · split
    · split
      · exact SP_num (by omega)
      · exact two 5 (by unfold K2; omega) _ _ (two 5 (by unfold K2; omega) _ _ (SP_num (by unfold K1 at hk; omega)) (SP_op1 (.inr ⟨rfl, by unfold K1 at hk; omega, by unfold K1 at hk; omega⟩) ha)) hx
    · split
      · exact two 5 (by unfold K2; omega) _ _ (one 9 (by unfold K1; omega) _ ha) hx
      · split
        · exact two 6 (by unfold K2; omega) _ _ hx ha
        · split
          · exact two 5 (by unfold K2; omega) _ _ (one 12 (by unfold K1; omega) _ ha) hx
          · split
            · exact one 7 (by unfold K1; omega) _ (two 5 (by unfold K2; omega) _ _ (one 11 (by unfold K1; omega) _ ha) hx)
            · exact two 6 (by unfold K2; omega) _ _ hx (two 5 (by unfold K2; omega) _ _ (SP_num (by omega)) (one 13 (by unfold K1; omega) _ ha))
theorem SP_dif2 {k : Int} {a b x y : Ex} (hk : K2 k) (ha : SP a) (hb : SP b) (hx : SP x) (hy : SP y) : SP (dif2 k a b x y) := by
  have two : ∀ k : Int, K2 k → ∀ a b, SP a → SP b → SP (op2 k a b) := fun k hk a b ha hb => SP_op2 hk ha hb
  unfold dif2
  split
  · exact two 3 (by unfold K2; omega) _ _ (two 5 (by unfold K2; omega) _ _ hx hb) (two 5 (by unfold K2; omega) _ _ ha hy)
  · split
    · split
      · exact two 6 (by unfold K2; omega) _ _ hx hb
      · exact two 6 (by unfold K2; omega) _ _ (two 4 (by unfold K2; omega) _ _ (two 5 (by unfold K2; omega) _ _ hx hb) (two 5 (by unfold K2; omega) _ _ ha hy)) (SP_op1 (.inr ⟨rfl, by omega, by omega⟩) hb)
    · exact two k hk _ _ hx hy
theorem SP_diff (nm : Bytes) {e : Ex} (h : SP e) : SP (diffE nm e) := by
  induction h with
  | num r hr => rw [diff_rat]; exact SP_num (by omega)
  | var s hs => rw [diff_var]; split <;> exact SP_num (by omega)
  | un k a hk ha _ ih => rw [diff_one nm a (K1_ne hk)]; exact SP_dif1 (.inl ⟨hk, rfl⟩) ha ih
  | pow n a h1 h2 ha _ ih => rw [diff_one nm a (by omega)]; exact SP_dif1 (.inr ⟨rfl, h1, h2⟩) ha ih
  | bin k a b hk ha hb _ ih1 ih2 => rw [diff_two nm a b (K2_ne hk)]; exact SP_dif2 hk ha hb ih1 ih2
/-- Simplifying twice is simplifying once; a derivative is simple. -/
theorem sim_sim {e : Ex} (h : VT e) : simE (simE e) = simE e := sim_SP (SP_sim h)
theorem sim_diff (nm : Bytes) {e : Ex} (h : VT e) : simE (diffE nm (simE e)) = diffE nm (simE e) := sim_SP (SP_diff nm (SP_sim h))
theorem siz_op1 (k n : Int) {a : Ex} (ha : VT a) : sizE (op1 k n a) ≤ sizE a + 1 := by
  have := siz_pos a
  rcases op1_cases k n a ha with ⟨r, hr, e⟩ | e | ⟨_, _, e⟩ | ⟨x, hx, _, ha', e⟩ <;> rw [e]
  · simp [ratE, sizE, sizL]
  · simp [opE, sizE, sizL]
  · omega
  · rw [ha']; simp [opE, sizE, sizL]; omega
theorem siz_op2 (k : Int) (a : Ex) {b : Ex} (hb : VT b) : sizE (op2 k a b) ≤ sizE a + sizE b + 1 := by
  have := siz_pos a
  have := siz_op1 7 0 hb
  rcases op2_cases k a b with ⟨r, hr, e⟩ | e | e | e | ⟨_, e⟩ <;> rw [e]
  · simp [ratE, sizE, sizL]
  · simp [opE, sizE, sizL]
  · omega
  · omega
  · omega
theorem siz_sim {e : Ex} (h : VT e) : sizE (simE e) ≤ sizE e := by
  induction h with
  | num r hr => rw [sim_rat]; exact Nat.le_refl _
  | var s hs => rw [sim_var]; exact Nat.le_refl _
  | un k a hk ha ih =>
    rw [sim_one a (K1_ne hk)]
    have := siz_op1 k 0 (VT_sim ha)
    simp only [opE, sizE, sizL]; omega
  | pow n a h1 h2 ha ih =>
    rw [sim_one a (by omega)]
    have := siz_op1 8 n (VT_sim ha)
    simp only [opE, sizE, sizL]; omega
  | bin k a b hk ha hb ih1 ih2 =>
    rw [sim_two a b (K2_ne hk)]
    have := siz_op2 k (simE a) (VT_sim hb)
    simp only [opE, sizE, sizL]; omega
theorem ok_sim {e : Ex} (h : okT e = true) : okT (simE e) = true := by
  have h1 := (okT_iff e).1 h
  have hv := okT_VT h
  have h2 := dep_sim hv
  have h3 := siz_sim hv
  exact (okT_iff _).2 ⟨VT_VS (VT_sim hv), by omega, by omega⟩
end Go.Proofs.Ytmcdnbmamoggoaa

/-
  Polynomials and their degrees: plain functions; derivatives lower the degree.
-/
namespace Go.Proofs.Ytmcdnbmamoggoaa
open Go Go.Sx
def divB (l : List Ex) : Bool := match l with
  | _ :: b :: _ => (b.k == 1) && (b.q.n != 0)
  | _ => false
mutual
def polE : Ex → Bool
  | .mk k _ _ _ l => if 9 ≤ k then false else if k = 6 then divB l && polL l else polL l
def polL : List Ex → Bool
  | [] => true
  | x :: l => polE x && polL l
end
def cap (n : Nat) : Option Nat := if n ≤ 1000 then some n else none
def deg1 (k p : Int) (i : Nat) : Nat := if k = 8 then i * p.toNat else i
def deg2 (k : Int) (i j : Nat) : Nat := if k = 5 then i + j else if k = 6 then i else max i j
def degO (k p : Int) (l : List (Option Nat)) : Option Nat := match l with
  | [some i] => cap (deg1 k p i)
  | [some i, some j] => cap (deg2 k i j)
  | _ => none
mutual
def degE (nm : Bytes) : Ex → Option Nat
  | .mk k _ s p l => if k = 1 then some 0 else if k = 2 then (if s = nm then some 1 else some 0) else degO k p (degL nm l)
def degL (nm : Bytes) : List Ex → List (Option Nat)
  | [] => []
  | x :: l => degE nm x :: degL nm l
end
theorem pol_rat (r : Rt) : polE (ratE r) = true := by simp [ratE, polE, polL]
theorem pol_num (n : Int) : polE (numE n) = true := by simp [numE, polE, polL]
theorem pol_var (s : Bytes) : polE (varE s) = true := by simp [varE, polE, polL]
theorem pol_one {k n : Int} {a : Ex} (hk : k = 7 ∨ k = 8) : polE (opE k n [a]) = polE a := by
  rcases hk with rfl | rfl <;> simp [opE, polE, polL]
theorem pol_fun {k n : Int} {l : List Ex} (hk : 9 ≤ k) : polE (opE k n l) = false := by simp [opE, polE, hk]
theorem pol_two {k : Int} {a b : Ex} (hk : k = 3 ∨ k = 4 ∨ k = 5) : polE (opE k 0 [a, b]) = (polE a && polE b) := by
  rcases hk with rfl | rfl | rfl <;> simp [opE, polE, polL]
theorem pol_div {a b : Ex} : polE (opE 6 0 [a, b]) = ((b.k == 1) && (b.q.n != 0) && (polE a && polE b)) := by
  simp [opE, polE, polL, divB]
theorem deg_rat (nm : Bytes) (r : Rt) : degE nm (ratE r) = some 0 := by simp [ratE, degE]
theorem deg_num (nm : Bytes) (n : Int) : degE nm (numE n) = some 0 := by simp [numE, degE]
theorem deg_var (nm s : Bytes) : degE nm (varE s) = if s = nm then some 1 else some 0 := by simp [varE, degE]
theorem deg_one (nm : Bytes) {k n : Int} {a : Ex} (h : k ≠ 1 ∧ k ≠ 2) : degE nm (opE k n [a]) = degO k n [degE nm a] := by simp [opE, degE, degL, h]
theorem deg_two (nm : Bytes) {k : Int} {a b : Ex} (h : k ≠ 1 ∧ k ≠ 2) : degE nm (opE k 0 [a, b]) = degO k 0 [degE nm a, degE nm b] := by simp [opE, degE, degL, h]
theorem cap_some {n m : Nat} (h : cap n = some m) : m = n ∧ n ≤ 1000 := by
  unfold cap at h; split at h
  · simp at h; exact ⟨h.symm, ‹_›⟩
  · simp at h
theorem cap_le {n : Nat} (h : n ≤ 1000) : cap n = some n := by simp [cap, h]
theorem deg_one_some {nm : Bytes} {k n : Int} {a : Ex} {d : Nat} (hk : k ≠ 1 ∧ k ≠ 2) (h : degE nm (opE k n [a]) = some d) : ∃ i, degE nm a = some i ∧ d = deg1 k n i ∧ d ≤ 1000 := by
  rw [deg_one nm hk] at h
  cases ha : degE nm a with
  | none => rw [ha] at h; simp [degO] at h
  | some i => rw [ha] at h; simp only [degO] at h; have := cap_some h; exact ⟨i, rfl, this.1, by omega⟩
theorem deg_two_some {nm : Bytes} {k : Int} {a b : Ex} {d : Nat} (hk : k ≠ 1 ∧ k ≠ 2) (h : degE nm (opE k 0 [a, b]) = some d) : ∃ i j, degE nm a = some i ∧ degE nm b = some j ∧ d = deg2 k i j ∧ d ≤ 1000 := by
  rw [deg_two nm hk] at h
  cases ha : degE nm a with
  | none => rw [ha] at h; simp [degO] at h
  | some i => cases hb : degE nm b with
    | none => rw [ha, hb] at h; simp [degO] at h
    | some j => rw [ha, hb] at h; simp only [degO] at h; have := cap_some h; exact ⟨i, j, rfl, rfl, this.1, by omega⟩
theorem deg_le (nm : Bytes) {e : Ex} (he : VT e) {d : Nat} (h : degE nm e = some d) : d ≤ 1000 := by
  cases he with
  | num r hr => rw [deg_rat] at h; simp at h; omega
  | var s hs => rw [deg_var] at h; split at h <;> simp at h <;> omega
  | un k a hk ha => obtain ⟨i, _, _, h3⟩ := deg_one_some (K1_ne hk) h; exact h3
  | pow n a h1 h2 ha => obtain ⟨i, _, _, h3⟩ := deg_one_some (by omega) h; exact h3
  | bin k a b hk ha hb => obtain ⟨i, j, _, _, _, h3⟩ := deg_two_some (K2_ne hk) h; exact h3

/-! ### Operations with polynomials -/
theorem pd_op1 {nm : Bytes} {k n : Int} {a : Ex} {i : Nat} (hk : (k = 7 ∧ n = 0) ∨ (k = 8 ∧ 0 ≤ n ∧ n ≤ 16)) (ha : VT a) (hp : polE a = true) (hd : degE nm a = some i) (hc : deg1 k n i ≤ 1000) :
    polE (op1 k n a) = true ∧ ∃ m, degE nm (op1 k n a) = some m ∧ m ≤ deg1 k n i := by
  rcases op1_cases k n a ha with ⟨r, hr, e⟩ | e | ⟨h1, h2, e⟩ | ⟨x, hx, h1, ha', e⟩ <;> rw [e]
  · exact ⟨pol_rat r, 0, deg_rat nm r, Nat.zero_le _⟩
  · refine ⟨by rw [pol_one (by omega)]; exact hp, deg1 k n i, ?_, Nat.le_refl _⟩
    rw [deg_one nm (by omega), hd]
    exact cap_le hc
  · refine ⟨hp, i, hd, ?_⟩
    subst h1; subst h2; simp [deg1]
  · subst ha'
    rw [pol_one (.inl rfl)] at hp
    obtain ⟨j, h3, h4, _⟩ := deg_one_some (by omega) hd
    subst h1
    exact ⟨hp, j, h3, by simp only [deg1] at h4 ⊢; simp at h4 ⊢; omega⟩
theorem pd_op2 {nm : Bytes} {k : Int} {a b : Ex} {i j : Nat} (hk : k = 3 ∨ k = 4 ∨ k = 5 ∨ (k = 6 ∧ ((b.k == 1) && (b.q.n != 0)) = true)) (hb : VT b) (hpa : polE a = true) (hpb : polE b = true)
    (hda : degE nm a = some i) (hdb : degE nm b = some j) (hj : k = 6 → j = 0) (hc : deg2 k i j ≤ 1000) : polE (op2 k a b) = true ∧ ∃ m, degE nm (op2 k a b) = some m ∧ m ≤ deg2 k i j := by
  rcases op2_cases k a b with ⟨r, hr, e⟩ | e | e | e | ⟨h4, e⟩
  · rw [e]; exact ⟨pol_rat r, 0, deg_rat nm r, Nat.zero_le _⟩
  · rw [e]
    refine ⟨?_, deg2 k i j, ?_, Nat.le_refl _⟩
    · rcases hk with h | h | h | ⟨h, h2⟩
      · rw [pol_two (.inl h), hpa, hpb]; rfl
      · rw [pol_two (.inr (.inl h)), hpa, hpb]; rfl
      · rw [pol_two (.inr (.inr h)), hpa, hpb]; rfl
      · subst h; rw [pol_div, h2, hpa, hpb]; rfl
    · rw [deg_two nm (by omega), hda, hdb]
      exact cap_le hc
  · rw [e]
    refine ⟨hpa, i, hda, ?_⟩
    unfold deg2; repeat' split
    all_goals omega
  · rw [e]
    refine ⟨hpb, j, hdb, ?_⟩
    unfold deg2; repeat' split
    all_goals first | omega | (have := hj ‹_›; omega)
  · rw [e]
    have h1 : deg1 7 0 j = j := by simp [deg1]
    have h2 : deg2 k i j = max i j := by subst h4; simp [deg2]
    obtain ⟨q1, m, q2, q3⟩ := pd_op1 (n := 0) (.inl ⟨rfl, rfl⟩) hb hpb hdb (by omega)
    exact ⟨q1, m, q2, by omega⟩
theorem num_of {b : Ex} (hb : VT b) (h : b.k = 1) : ∃ r, rOk r = true ∧ b = ratE r := by
  cases hb with
  | num r hr => exact ⟨r, hr, rfl⟩
  | var s hs => simp [varE, Ex.k] at h
  | un k a hk ha => have : k = 1 := h; have := K1_ne hk; omega
  | pow n a h1 h2 ha => simp [opE, Ex.k] at h
  | bin k a b hk ha hb => have : k = 1 := h; have := K2_ne hk; omega
theorem pol_op1 {k n : Int} {a : Ex} (hk : k = 7 ∨ k = 8) (ha : VT a) (hp : polE a = true) : polE (op1 k n a) = true := by
  rcases op1_cases k n a ha with ⟨r, hr, e⟩ | e | ⟨h1, h2, e⟩ | ⟨x, hx, h1, ha', e⟩ <;> rw [e]
  · exact pol_rat r
  · rw [pol_one hk]; exact hp
  · exact hp
  · subst ha'; rw [pol_one (.inl rfl)] at hp; exact hp
theorem pol_op2 {k : Int} {a b : Ex} (hk : k = 3 ∨ k = 4 ∨ k = 5 ∨ (k = 6 ∧ ((b.k == 1) && (b.q.n != 0)) = true)) (hb : VT b) (hpa : polE a = true) (hpb : polE b = true) : polE (op2 k a b) = true := by
  rcases op2_cases k a b with ⟨r, hr, e⟩ | e | e | e | ⟨h4, e⟩ <;> rw [e]
  · exact pol_rat r
  · rcases hk with h | h | h | ⟨h, h2⟩
    · rw [pol_two (.inl h), hpa, hpb]; rfl
    · rw [pol_two (.inr (.inl h)), hpa, hpb]; rfl
    · rw [pol_two (.inr (.inr h)), hpa, hpb]; rfl
    · subst h; rw [pol_div, h2, hpa, hpb]; rfl
  · exact hpa
  · exact hpb
  · exact pol_op1 (.inl rfl) hb hpb
/-- What a polynomial's parts are. -/
theorem pol_un {k n : Int} {a : Ex} (hk : K1 k) (h : polE (opE k n [a]) = true) : k = 7 := by
  rcases hk with rfl | hk
  · rfl
  · rw [pol_fun (by omega)] at h; cases h
theorem pol_bin {k : Int} {a b : Ex} (hk : K2 k) (h : polE (opE k 0 [a, b]) = true) : polE a = true ∧ polE b = true ∧ (k = 3 ∨ k = 4 ∨ k = 5 ∨ (k = 6 ∧ ((b.k == 1) && (b.q.n != 0)) = true)) := by
  by_cases h6 : k = 6
  · subst h6
    rw [pol_div] at h
    obtain ⟨h1, h2⟩ := Bool.and_eq_true_iff.1 h
    obtain ⟨h3, h4⟩ := Bool.and_eq_true_iff.1 h2
    exact ⟨h3, h4, .inr (.inr (.inr ⟨rfl, h1⟩))⟩
  · have h3 : k = 3 ∨ k = 4 ∨ k = 5 := by unfold K2 at hk; omega
    rw [pol_two h3, Bool.and_eq_true] at h
    exact ⟨h.1, h.2, by omega⟩
theorem div_num {b : Ex} (hb : VT b) (h : ((b.k == 1) && (b.q.n != 0)) = true) : ∃ r, rOk r = true ∧ b = ratE r ∧ r.n ≠ 0 := by
  rw [Bool.and_eq_true] at h
  obtain ⟨r, hr, e⟩ := num_of hb (by simpa using h.1)
  refine ⟨r, hr, e, ?_⟩
  have := h.2
  rw [e] at this
  simpa [ratE, Ex.q] using this
/-- The simple form of a polynomial is one, of no greater degree. -/
theorem pd_sim {nm : Bytes} {e : Ex} (h : VT e) : polE e = true → (polE (simE e) = true ∧ ∀ n, degE nm e = some n → ∃ m, degE nm (simE e) = some m ∧ m ≤ n) := by
  induction h with
  | num r hr => rw [sim_rat]; exact fun hp => ⟨hp, fun n hn => ⟨n, hn, Nat.le_refl _⟩⟩
  | var s hs => rw [sim_var]; exact fun hp => ⟨hp, fun n hn => ⟨n, hn, Nat.le_refl _⟩⟩
  | un k a hk ha ih =>
    intro hp
    obtain rfl := pol_un hk hp
    rw [pol_one (.inl rfl)] at hp
    obtain ⟨p1, d1⟩ := ih hp
    rw [sim_one a (by omega)]
    refine ⟨pol_op1 (.inl rfl) (VT_sim ha) p1, fun n hn => ?_⟩
    obtain ⟨i, hi, h1, h2⟩ := deg_one_some (by omega) hn
    obtain ⟨m, hm, hle⟩ := d1 i hi
    have e1 : ∀ i, deg1 7 0 i = i := fun i => by simp [deg1]
    rw [e1] at h1
    obtain ⟨_, m', h3, h4⟩ := pd_op1 (n := 0) (.inl ⟨rfl, rfl⟩) (VT_sim ha) p1 hm (by rw [e1]; omega)
    rw [e1] at h4
    exact ⟨m', h3, by omega⟩
  | pow p a hp1 hp2 ha ih =>
    intro hp
    rw [pol_one (.inr rfl)] at hp
    obtain ⟨p1, d1⟩ := ih hp
    rw [sim_one a (by omega)]
    refine ⟨pol_op1 (.inr rfl) (VT_sim ha) p1, fun n hn => ?_⟩
    obtain ⟨i, hi, h1, h2⟩ := deg_one_some (by omega) hn
    obtain ⟨m, hm, hle⟩ := d1 i hi
    have e1 : ∀ i, deg1 8 p i = i * p.toNat := fun i => by simp [deg1]
    rw [e1] at h1
    have h5 : m * p.toNat ≤ i * p.toNat := Nat.mul_le_mul_right _ hle
    obtain ⟨_, m', h3, h4⟩ := pd_op1 (n := p) (.inr ⟨rfl, hp1, hp2⟩) (VT_sim ha) p1 hm (by rw [e1]; omega)
    rw [e1] at h4
    exact ⟨m', h3, by omega⟩
  | bin k a b hk ha hb ih1 ih2 =>
    intro hp
    obtain ⟨hpa, hpb, hk'⟩ := pol_bin hk hp
    obtain ⟨p1, d1⟩ := ih1 hpa
    obtain ⟨p2, d2⟩ := ih2 hpb
    rw [sim_two a b (K2_ne hk)]
    have hk2 : k = 3 ∨ k = 4 ∨ k = 5 ∨ (k = 6 ∧ (((simE b).k == 1) && ((simE b).q.n != 0)) = true) := by
      rcases hk' with h | h | h | ⟨h, h2⟩
      · exact .inl h
      · exact .inr (.inl h)
      · exact .inr (.inr (.inl h))
      · obtain ⟨r, hr, e, _⟩ := div_num hb h2
        refine .inr (.inr (.inr ⟨h, ?_⟩))
        rw [e, sim_rat, ← e]; exact h2
    refine ⟨pol_op2 hk2 (VT_sim hb) p1 p2, fun n hn => ?_⟩
    obtain ⟨i, j, hi, hj, h1, h2⟩ := deg_two_some (K2_ne hk) hn
    obtain ⟨m1, hm1, hle1⟩ := d1 i hi
    obtain ⟨m2, hm2, hle2⟩ := d2 j hj
    have hz : k = 6 → m2 = 0 := by
      intro h6
      rcases hk' with h | h | h | ⟨h, h3⟩
      · omega
      · omega
      · omega
      · obtain ⟨r, hr, e, _⟩ := div_num hb h3
        rw [e, sim_rat, deg_rat] at hm2
        simp at hm2; omega
    have hmono : deg2 k m1 m2 ≤ deg2 k i j := by
      unfold deg2
      by_cases h5 : k = 5
      · rw [if_pos h5, if_pos h5]; omega
      · rw [if_neg h5, if_neg h5]
        by_cases h6 : k = 6
        · rw [if_pos h6, if_pos h6]; omega
        · rw [if_neg h6, if_neg h6]; omega
    obtain ⟨_, m', h3, h4⟩ := pd_op2 hk2 (VT_sim hb) p1 p2 hm1 hm2 hz (by omega)
    exact ⟨m', h3, by omega⟩

/-! ### Nothing -/
theorem rMake_zero {d : Int} (h : d ≠ 0) : rMake 0 d = (⟨0, 1⟩, 0) := by
  have h1 : Nat.gcd (0 : Int).natAbs d.natAbs = d.natAbs := by simp
  have hp : 0 < d.natAbs := by omega
  unfold rMake low
  rw [if_neg h, h1, Nat.div_self hp]
  have : (0 : Int).natAbs / d.natAbs = 0 := by simp
  rw [this, if_pos (by omega)]
  simp
theorem rOk_d {r : Rt} (h : rOk r = true) : r.d ≠ 0 := by
  have := (rOk_in h).1; omega
theorem ok01 : rOk ⟨0, 1⟩ = true := rOk_one (by omega)
theorem z5r {a : Ex} (ha : VT a) : op2 5 a (numE 0) = numE 0 := by
  by_cases hk : a.k = 1
  · obtain ⟨r, hr, rfl⟩ := num_of ha hk
    have e : foldN 5 0 [ratE r, numE 0] = some ⟨0, 1⟩ := by
      have e1 : rMul r ⟨0, 1⟩ = (⟨0, 1⟩, 0) := by
        unfold rMul; rw [rOp_yes hr ok01]; simp only [Int.mul_zero, Int.mul_one]; exact rMake_zero (rOk_d hr)
      simp [foldN, ratE, numE, Ex.k, q0, q1, Ex.q, e1, okN]
    simp only [op2, e]; rfl
  · have e : foldN 5 0 [a, numE 0] = none := by simp [foldN, hk]
    simp only [op2, e]
    simp [sim2, isB, numE, Ex.k, Ex.q]
theorem z5l {b : Ex} (hb : VT b) : op2 5 (numE 0) b = numE 0 := by
  by_cases hk : b.k = 1
  · obtain ⟨r, hr, rfl⟩ := num_of hb hk
    have e : foldN 5 0 [numE 0, ratE r] = some ⟨0, 1⟩ := by
      have e1 : rMul ⟨0, 1⟩ r = (⟨0, 1⟩, 0) := by
        unfold rMul; rw [rOp_yes ok01 hr]; simp only [Int.zero_mul, Int.one_mul]; exact rMake_zero (rOk_d hr)
      simp [foldN, ratE, numE, Ex.k, q0, q1, Ex.q, e1, okN]
    simp only [op2, e]; rfl
  · have e : foldN 5 0 [numE 0, b] = none := by simp [foldN, hk]
    simp only [op2, e]
    simp [sim2, isB, numE, Ex.k, Ex.q]
theorem z6 {r : Rt} (hr : rOk r = true) (hn : r.n ≠ 0) : op2 6 (numE 0) (ratE r) = numE 0 := by
  have e : foldN 6 0 [numE 0, ratE r] = some ⟨0, 1⟩ := by
    have e1 : rDiv ⟨0, 1⟩ r = (⟨0, 1⟩, 0) := by
      unfold rDiv; rw [rOp_yes ok01 hr]; simp only [Int.zero_mul, Int.one_mul]; exact rMake_zero hn
    simp [foldN, ratE, numE, Ex.k, q0, q1, Ex.q, e1, okN]
  simp only [op2, e]; rfl
theorem z3 {k : Int} (hk : k = 3 ∨ k = 4) : op2 k (numE 0) (numE 0) = numE 0 := by
  rcases hk with rfl | rfl
  · have e : foldN 3 0 [numE 0, numE 0] = some ⟨0, 1⟩ := by
      have e1 : rAdd ⟨0, 1⟩ ⟨0, 1⟩ = (⟨0, 1⟩, 0) := by unfold rAdd; rw [rOp_yes ok01 ok01]; exact rMake_zero (by decide)
      simp [foldN, numE, Ex.k, q0, q1, Ex.q, e1, okN]
    simp only [op2, e]; rfl
  · have e : foldN 4 0 [numE 0, numE 0] = some ⟨0, 1⟩ := by
      have e1 : rSub ⟨0, 1⟩ ⟨0, 1⟩ = (⟨0, 1⟩, 0) := by unfold rSub; rw [rOp_yes ok01 ok01]; exact rMake_zero (by decide)
      simp [foldN, numE, Ex.k, q0, q1, Ex.q, e1, okN]
    simp only [op2, e]; rfl
theorem z7 : op1 7 0 (numE 0) = numE 0 := by
  have e : foldN 7 0 [numE 0] = some ⟨0, 1⟩ := by
    have e1 : rSub ⟨0, 1⟩ ⟨0, 1⟩ = (⟨0, 1⟩, 0) := by unfold rSub; rw [rOp_yes ok01 ok01]; exact rMake_zero (by decide)
    simp [foldN, numE, Ex.k, q0, Ex.q, e1, okN]
  simp only [op1, e]; rfl
theorem pow_ge {n : Int} {a : Ex} (h0 : 0 ≤ n) (h : op1 8 n a = opE 8 n [a]) : 2 ≤ n := by
  by_cases h1 : n = 0
  · subst h1
    exfalso
    unfold op1 at h
    split at h
    · simp [ratE, opE] at h
    · simp [sim1, numE, opE] at h
  · by_cases h2 : n = 1
    · subst h2
      exfalso
      unfold op1 at h
      split at h
      · simp [ratE, opE] at h
      · simp [sim1] at h
        have := congrArg sizE h
        simp [opE, sizE, sizL] at this
    · omega
/-- The derivative of a simple polynomial is one, of a lower degree. -/
theorem pd_diff {nm : Bytes} {e : Ex} (h : SP e) : polE e = true → (polE (diffE nm e) = true ∧ ∀ n, degE nm e = some n → (n = 0 → diffE nm e = numE 0) ∧ ∃ m, degE nm (diffE nm e) = some m ∧ m ≤ n - 1) := by
  induction h with
  | num r hr =>
    intro _
    rw [diff_rat]
    exact ⟨pol_num 0, fun n _ => ⟨fun _ => rfl, 0, deg_num nm 0, Nat.zero_le _⟩⟩
  | var s hs =>
    intro _
    rw [diff_var]
    by_cases hsn : s = nm
    · rw [if_pos hsn]
      refine ⟨pol_num 1, fun n hn => ⟨fun h0 => ?_, 0, deg_num nm 1, Nat.zero_le _⟩⟩
      rw [deg_var, if_pos hsn, h0] at hn
      simp at hn
    · rw [if_neg hsn]
      exact ⟨pol_num 0, fun n _ => ⟨fun _ => rfl, 0, deg_num nm 0, Nat.zero_le _⟩⟩
  | un k a hk ha _ ih =>
    intro hp
    obtain rfl := pol_un hk hp
    rw [pol_one (.inl rfl)] at hp
    obtain ⟨p1, d1⟩ := ih hp
    have hx := VT_diff nm (SP_VT ha)
    rw [diff_one nm a (by omega), show dif1 7 0 a (diffE nm a) = op1 7 0 (diffE nm a) by simp [dif1]]
    refine ⟨pol_op1 (.inl rfl) hx p1, fun n hn => ?_⟩
    obtain ⟨i, hi, h1, h2⟩ := deg_one_some (by omega) hn
    have e1 : ∀ i, deg1 7 0 i = i := fun i => by simp [deg1]
    rw [e1] at h1
    obtain ⟨hz, m, hm, hle⟩ := d1 i hi
    refine ⟨fun h0 => by rw [hz (by omega)]; exact z7, ?_⟩
    obtain ⟨_, m', h3, h4⟩ := pd_op1 (n := 0) (.inl ⟨rfl, rfl⟩) hx p1 hm (by rw [e1]; omega)
    rw [e1] at h4
    exact ⟨m', h3, by omega⟩
  | pow p a hp1 hp2 ha ho ih =>
    intro hp
    rw [pol_one (.inr rfl)] at hp
    obtain ⟨p1, d1⟩ := ih hp
    have h2p := pow_ge hp1 ho
    have hx := VT_diff nm (SP_VT ha)
    have hq : VT (op1 8 (p - 1) a) := VT_op1 (.inr ⟨rfl, by omega, by omega⟩) (SP_VT ha)
    have hpq : polE (op1 8 (p - 1) a) = true := pol_op1 (.inr rfl) (SP_VT ha) hp
    have hnp := pol_num p
    have hy : VT (op2 5 (numE p) (op1 8 (p - 1) a)) := VT_op2 (by unfold K2; omega) (VT_numE (by omega)) hq
    have hpy : polE (op2 5 (numE p) (op1 8 (p - 1) a)) = true := pol_op2 (.inr (.inr (.inl rfl))) hq hnp hpq
    rw [diff_one nm a (by omega), show dif1 8 p a (diffE nm a) = op2 5 (op2 5 (numE p) (op1 8 (p - 1) a)) (diffE nm a) by simp only [dif1]; rw [if_neg (by omega), if_pos trivial, if_neg (by omega)]]
    refine ⟨pol_op2 (.inr (.inr (.inl rfl))) hx hpy p1, fun n hn => ?_⟩
    obtain ⟨i, hi, h1, h2⟩ := deg_one_some (by omega) hn
    have e1 : ∀ (q : Int) (i : Nat), deg1 8 q i = i * q.toNat := fun q i => by simp [deg1]
    have e2 : ∀ i j, deg2 5 i j = i + j := fun i j => by simp [deg2]
    rw [e1] at h1
    have e3 : i * p.toNat = i * (p - 1).toNat + i := by
      rw [show p.toNat = (p - 1).toNat + 1 by omega, Nat.mul_succ]
    obtain ⟨hz, m, hm, hle⟩ := d1 i hi
    refine ⟨fun h0 => ?_, ?_⟩
    · rw [hz (by omega)]; exact z5r hy
    · rcases Nat.eq_zero_or_pos i with h0 | hpos
      · rw [hz h0, z5r hy]
        exact ⟨0, deg_num nm 0, Nat.zero_le _⟩
      · obtain ⟨_, mq, hmq, hleq⟩ := pd_op1 (nm := nm) (n := p - 1) (.inr ⟨rfl, by omega, by omega⟩) (SP_VT ha) hp hi (by rw [e1]; omega)
        rw [e1] at hleq
        obtain ⟨_, my, hmy, hley⟩ := pd_op2 (nm := nm) (k := 5) (.inr (.inr (.inl rfl))) hq hnp hpq (deg_num nm p) hmq (by omega) (by rw [e2]; omega)
        rw [e2] at hley
        obtain ⟨_, m', h3, h4⟩ := pd_op2 (nm := nm) (k := 5) (.inr (.inr (.inl rfl))) hx hpy p1 hmy hm (by omega) (by rw [e2]; omega)
        rw [e2] at h4
        exact ⟨m', h3, by omega⟩
  | bin k a b hk ha hb _ ih1 ih2 =>
    intro hp
    obtain ⟨hpa, hpb, hk'⟩ := pol_bin hk hp
    obtain ⟨p1, d1⟩ := ih1 hpa
    obtain ⟨p2, d2⟩ := ih2 hpb
    have hx := VT_diff nm (SP_VT ha)
    have hy := VT_diff nm (SP_VT hb)
    have va := SP_VT ha
    have vb := SP_VT hb
    have e5 : ∀ i j, deg2 5 i j = i + j := fun i j => by simp [deg2]
    rw [diff_two nm a b (K2_ne hk)]
    by_cases h5 : k = 5
    · subst h5
      have t1 : VT (op2 5 (diffE nm a) b) := VT_op2 hk hx vb
      have t2 : VT (op2 5 a (diffE nm b)) := VT_op2 hk va hy
      have q1 : polE (op2 5 (diffE nm a) b) = true := pol_op2 (.inr (.inr (.inl rfl))) vb p1 hpb
      have q2 : polE (op2 5 a (diffE nm b)) = true := pol_op2 (.inr (.inr (.inl rfl))) hy hpa p2
      rw [show dif2 5 a b (diffE nm a) (diffE nm b) = op2 3 (op2 5 (diffE nm a) b) (op2 5 a (diffE nm b)) by simp [dif2]]
      refine ⟨pol_op2 (.inl rfl) t2 q1 q2, fun n hn => ?_⟩
      obtain ⟨i, j, hi, hj, h1, h2⟩ := deg_two_some (by omega) hn
      rw [e5] at h1
      obtain ⟨hz1, m1, hm1, hle1⟩ := d1 i hi
      obtain ⟨hz2, m2, hm2, hle2⟩ := d2 j hj
      refine ⟨fun h0 => by rw [hz1 (by omega), hz2 (by omega), z5l vb, z5r va]; exact z3 (.inl rfl), ?_⟩
      have f1 : ∃ m, degE nm (op2 5 (diffE nm a) b) = some m ∧ m ≤ n - 1 := by
        rcases Nat.eq_zero_or_pos i with h0 | hpos
        · rw [hz1 h0, z5l vb]; exact ⟨0, deg_num nm 0, Nat.zero_le _⟩
        · obtain ⟨_, m, hm, hle⟩ := pd_op2 (nm := nm) (k := 5) (.inr (.inr (.inl rfl))) vb p1 hpb hm1 hj (by omega) (by rw [e5]; omega)
          rw [e5] at hle; exact ⟨m, hm, by omega⟩
      have f2 : ∃ m, degE nm (op2 5 a (diffE nm b)) = some m ∧ m ≤ n - 1 := by
        rcases Nat.eq_zero_or_pos j with h0 | hpos
        · rw [hz2 h0, z5r va]; exact ⟨0, deg_num nm 0, Nat.zero_le _⟩
        · obtain ⟨_, m, hm, hle⟩ := pd_op2 (nm := nm) (k := 5) (.inr (.inr (.inl rfl))) hy hpa p2 hi hm2 (by omega) (by rw [e5]; omega)
          rw [e5] at hle; exact ⟨m, hm, by omega⟩
      obtain ⟨g1, hg1, l1⟩ := f1
      obtain ⟨g2, hg2, l2⟩ := f2
      have e3 : deg2 3 g1 g2 = max g1 g2 := by simp [deg2]
      obtain ⟨_, m', h3, h4⟩ := pd_op2 (nm := nm) (k := 3) (.inl rfl) t2 q1 q2 hg1 hg2 (by omega) (by rw [e3]; omega)
      exact ⟨m', h3, by omega⟩
    · by_cases h6 : k = 6
      · subst h6
        have hdb : ((b.k == 1) && (b.q.n != 0)) = true := by
          rcases hk' with h | h | h | ⟨_, h⟩
          · omega
          · omega
          · omega
          · exact h
        obtain ⟨r, hr, hbr, hrn⟩ := div_num vb hdb
        have hb1 : b.k = 1 := by rw [hbr]; rfl
        rw [show dif2 6 a b (diffE nm a) (diffE nm b) = op2 6 (diffE nm a) b by simp [dif2, hb1]]
        refine ⟨pol_op2 (.inr (.inr (.inr ⟨rfl, hdb⟩))) vb p1 hpb, fun n hn => ?_⟩
        obtain ⟨i, j, hi, hj, h1, h2⟩ := deg_two_some (by omega) hn
        have e6 : ∀ i j, deg2 6 i j = i := fun i j => by simp [deg2]
        rw [e6] at h1
        have hj0 : j = 0 := by rw [hbr, deg_rat] at hj; simp at hj; omega
        obtain ⟨hz1, m1, hm1, hle1⟩ := d1 i hi
        refine ⟨fun h0 => by rw [hz1 (by omega), hbr]; exact z6 hr hrn, ?_⟩
        obtain ⟨_, m', h3, h4⟩ := pd_op2 (nm := nm) (k := 6) (.inr (.inr (.inr ⟨rfl, hdb⟩))) vb p1 hpb hm1 hj (fun _ => hj0) (by rw [e6]; omega)
        rw [e6] at h4
        exact ⟨m', h3, by omega⟩
      · have hk3 : k = 3 ∨ k = 4 := by unfold K2 at hk; omega
        rw [show dif2 k a b (diffE nm a) (diffE nm b) = op2 k (diffE nm a) (diffE nm b) by simp [dif2, h5, h6]]
        have hkk : k = 3 ∨ k = 4 ∨ k = 5 ∨ (k = 6 ∧ (((diffE nm b).k == 1) && ((diffE nm b).q.n != 0)) = true) := by omega
        refine ⟨pol_op2 hkk hy p1 p2, fun n hn => ?_⟩
        obtain ⟨i, j, hi, hj, h1, h2⟩ := deg_two_some (K2_ne hk) hn
        have e3 : ∀ i j, deg2 k i j = max i j := fun i j => by simp [deg2, h5, h6]
        rw [e3] at h1
        obtain ⟨hz1, m1, hm1, hle1⟩ := d1 i hi
        obtain ⟨hz2, m2, hm2, hle2⟩ := d2 j hj
        refine ⟨fun h0 => by rw [hz1 (by omega), hz2 (by omega)]; exact z3 hk3, ?_⟩
        obtain ⟨_, m', h3, h4⟩ := pd_op2 (nm := nm) hkk hy p1 p2 hm1 hm2 (by omega) (by rw [e3]; omega)
        rw [e3] at h4
        exact ⟨m', h3, by omega⟩
/-- The derivative of a polynomial is one, of a lower degree. -/
theorem pd_all {nm : Bytes} {e : Ex} (h : VT e) (hp : polE e = true) {n : Nat} (hn : degE nm e = some n) : polE (diffE nm (simE e)) = true ∧ ∃ m, degE nm (diffE nm (simE e)) = some m ∧ m ≤ n - 1 := by
  obtain ⟨p1, d1⟩ := pd_sim (nm := nm) h hp
  obtain ⟨m, hm, hle⟩ := d1 n hn
  obtain ⟨p2, d2⟩ := pd_diff (nm := nm) (SP_sim h) p1
  obtain ⟨_, m', hm', hle'⟩ := d2 m hm
  exact ⟨p2, m', hm', by omega⟩
end Go.Proofs.Ytmcdnbmamoggoaa
