/-
  Simple trees: they are their own simple forms, and so are their derivatives.
-/
import Derived.Test.YtnijmbnkcmhfpaaGreatDoorQVa
set_option linter.unusedVariables false
set_option linter.unusedSimpArgs false
namespace Go.Proofs.YtnijmbnkcmhfpaaGreatDoor
open Go Go.Sx
/-- A tree that is simple. -/
inductive SP : Ex → Prop
  | num (r : Rt) : rOk r = true → SP (ratE r)
  | var (s : Bytes) : nameB s = true → SP (varE s)
  | un (k : Int) (a : Ex) : K1 k → SP a → op1 k 0 a = opE k 0 [a] → SP (opE k 0 [a])
  | pow (n : Int) (a : Ex) : 0 ≤ n → n ≤ 16 → SP a → op1 8 n a = opE 8 n [a] → SP (opE 8 n [a])
  | bin (k : Int) (a b : Ex) : K2 k → SP a → SP b → op2 k a b = opE k 0 [a, b] → SP (opE k 0 [a, b])
theorem SP_VT {e : Ex} (h : SP e) : VT e := by
  induction h with
  | num r hr => exact VT.num r hr
  | var s hs => exact VT.var s hs
  | un k a hk _ _ ih => exact VT.un k a hk ih
  | pow n a h1 h2 _ _ ih => exact VT.pow n a h1 h2 ih
  | bin k a b hk _ _ _ ih1 ih2 => exact VT.bin k a b hk ih1 ih2
theorem sim_SP {e : Ex} (h : SP e) : simE e = e := by
  induction h with
  | num r hr => exact sim_rat r
  | var s hs => exact sim_var s
  | un k a hk _ ho ih => rw [sim_one a (K1_ne hk), ih, ho]
  | pow n a h1 h2 _ ho ih => rw [sim_one a (by omega), ih, ho]
  | bin k a b hk _ _ ho ih1 ih2 => rw [sim_two a b (K2_ne hk), ih1, ih2, ho]
theorem opE_inj {k k' n n' : Int} {l l' : List Ex} (h : opE k n l = opE k' n' l') : k = k' ∧ n = n' ∧ l = l' := by
  simp only [opE, Ex.mk.injEq] at h; exact ⟨h.1, h.2.2.2.1, h.2.2.2.2⟩
theorem SP_neg {x : Ex} (h : SP (opE 7 0 [x])) : SP x := by
  generalize he : opE 7 0 [x] = e at h
  cases h with
  | num r hr => simp [opE, ratE] at he
  | var s hs => simp [opE, varE] at he
  | un k a hk ha ho => obtain ⟨_, _, h3⟩ := opE_inj he; simp at h3; rw [h3]; exact ha
  | pow n a h1 h2 ha ho => obtain ⟨h3, _, _⟩ := opE_inj he; omega
  | bin k a b hk ha hb ho => obtain ⟨_, _, h3⟩ := opE_inj he; simp at h3
theorem SP_op1 {k n : Int} {a : Ex} (hk : (K1 k ∧ n = 0) ∨ (k = 8 ∧ 0 ≤ n ∧ n ≤ 16)) (ha : SP a) : SP (op1 k n a) := by
  rcases op1_cases k n a (SP_VT ha) with ⟨r, hr, e⟩ | e | ⟨_, _, e⟩ | ⟨x, hx, _, ha', e⟩
  · rw [e]; exact SP.num r hr
  · rw [e]
    rcases hk with ⟨hk, rfl⟩ | ⟨rfl, h1, h2⟩
    · exact SP.un k a hk ha e
    · exact SP.pow n a h1 h2 ha e
  · rw [e]; exact ha
  · rw [e]; rw [ha'] at ha; exact SP_neg ha
theorem SP_op2 {k : Int} {a b : Ex} (hk : K2 k) (ha : SP a) (hb : SP b) : SP (op2 k a b) := by
  rcases op2_cases k a b with ⟨r, hr, e⟩ | e | e | e | ⟨_, e⟩
  · rw [e]; exact SP.num r hr
  · rw [e]; exact SP.bin k a b hk ha hb e
  · rw [e]; exact ha
  · rw [e]; exact hb
  · rw [e]; exact SP_op1 (.inl ⟨.inl rfl, rfl⟩) hb
theorem SP_sim {e : Ex} (h : VT e) : SP (simE e) := by
  induction h with
  | num r hr => rw [sim_rat]; exact SP.num r hr
  | var s hs => rw [sim_var]; exact SP.var s hs
  | un k a hk _ ih => rw [sim_one a (K1_ne hk)]; exact SP_op1 (.inl ⟨hk, rfl⟩) ih
  | pow n a h1 h2 _ ih => rw [sim_one a (by omega)]; exact SP_op1 (.inr ⟨rfl, h1, h2⟩) ih
  | bin k a b hk _ _ ih1 ih2 => rw [sim_two a b (K2_ne hk)]; exact SP_op2 hk ih1 ih2
theorem SP_num {n : Int} (h : -1073741824 ≤ n ∧ n ≤ 1073741824) : SP (numE n) := SP.num ⟨n, 1⟩ (rOk_one h)
theorem SP_dif1 {k n : Int} {a x : Ex} (hk : (K1 k ∧ n = 0) ∨ (k = 8 ∧ 0 ≤ n ∧ n ≤ 16)) (ha : SP a) (hx : SP x) : SP (dif1 k n a x) := by
  have two : ∀ k : Int, K2 k → ∀ a b, SP a → SP b → SP (op2 k a b) := fun k hk a b ha hb => SP_op2 hk ha hb
  have one : ∀ k : Int, K1 k → ∀ a, SP a → SP (op1 k 0 a) := fun k hk a ha => SP_op1 (.inl ⟨hk, rfl⟩) ha
  unfold dif1
  split
  · exact one 7 (by unfold K1; omega) x hx
  · split
    · split
      · exact SP_num (by omega)
      · exact two 5 (by unfold K2; omega) _ _ (two 5 (by unfold K2; omega) _ _ (SP_num (by unfold K1 at hk; omega)) (SP_op1 (.inr ⟨rfl, by unfold K1 at hk; omega, by unfold K1 at hk; omega⟩) ha)) hx
    · split
      · exact two 5 (by unfold K2; omega) _ _ (one 9 (by unfold K1; omega) _ ha) hx
      · split
        · exact two 6 (by unfold K2; omega) _ _ hx ha
        · split
          · exact two 5 (by unfold K2; omega) _ _ (one 12 (by unfold K1; omega) _ ha) hx
          · split
            · exact one 7 (by unfold K1; omega) _ (two 5 (by unfold K2; omega) _ _ (one 11 (by unfold K1; omega) _ ha) hx)
            · exact two 6 (by unfold K2; omega) _ _ hx (two 5 (by unfold K2; omega) _ _ (SP_num (by omega)) (one 13 (by unfold K1; omega) _ ha))
theorem SP_dif2 {k : Int} {a b x y : Ex} (hk : K2 k) (ha : SP a) (hb : SP b) (hx : SP x) (hy : SP y) : SP (dif2 k a b x y) := by
  have two : ∀ k : Int, K2 k → ∀ a b, SP a → SP b → SP (op2 k a b) := fun k hk a b ha hb => SP_op2 hk ha hb
  unfold dif2
  split
  · exact two 3 (by unfold K2; omega) _ _ (two 5 (by unfold K2; omega) _ _ hx hb) (two 5 (by unfold K2; omega) _ _ ha hy)
  · split
    · split
      · exact two 6 (by unfold K2; omega) _ _ hx hb
      · exact two 6 (by unfold K2; omega) _ _ (two 4 (by unfold K2; omega) _ _ (two 5 (by unfold K2; omega) _ _ hx hb) (two 5 (by unfold K2; omega) _ _ ha hy)) (SP_op1 (.inr ⟨rfl, by omega, by omega⟩) hb)
    · exact two k hk _ _ hx hy
theorem SP_diff (nm : Bytes) {e : Ex} (h : SP e) : SP (diffE nm e) := by
  induction h with
  | num r hr => rw [diff_rat]; exact SP_num (by omega)
  | var s hs => rw [diff_var]; split <;> exact SP_num (by omega)
  | un k a hk ha _ ih => rw [diff_one nm a (K1_ne hk)]; exact SP_dif1 (.inl ⟨hk, rfl⟩) ha ih
  | pow n a h1 h2 ha _ ih => rw [diff_one nm a (by omega)]; exact SP_dif1 (.inr ⟨rfl, h1, h2⟩) ha ih
  | bin k a b hk ha hb _ ih1 ih2 => rw [diff_two nm a b (K2_ne hk)]; exact SP_dif2 hk ha hb ih1 ih2
/-- Simplifying twice is simplifying once; a derivative is simple. -/
theorem sim_sim {e : Ex} (h : VT e) : simE (simE e) = simE e := sim_SP (SP_sim h)
theorem sim_diff (nm : Bytes) {e : Ex} (h : VT e) : simE (diffE nm (simE e)) = diffE nm (simE e) := sim_SP (SP_diff nm (SP_sim h))
theorem siz_op1 (k n : Int) {a : Ex} (ha : VT a) : sizE (op1 k n a) ≤ sizE a + 1 := by
  have := siz_pos a
  rcases op1_cases k n a ha with ⟨r, hr, e⟩ | e | ⟨_, _, e⟩ | ⟨x, hx, _, ha', e⟩ <;> rw [e]
  · simp [ratE, sizE, sizL]
  · simp [opE, sizE, sizL]
  · omega
  · rw [ha']; simp [opE, sizE, sizL]; omega
theorem siz_op2 (k : Int) (a : Ex) {b : Ex} (hb : VT b) : sizE (op2 k a b) ≤ sizE a + sizE b + 1 := by
  have := siz_pos a
  have := siz_op1 7 0 hb
  rcases op2_cases k a b with ⟨r, hr, e⟩ | e | e | e | ⟨_, e⟩ <;> rw [e]
  · simp [ratE, sizE, sizL]
  · simp [opE, sizE, sizL]
  · omega
  · omega
  · omega
theorem siz_sim {e : Ex} (h : VT e) : sizE (simE e) ≤ sizE e := by
  induction h with
  | num r hr => rw [sim_rat]; exact Nat.le_refl _
  | var s hs => rw [sim_var]; exact Nat.le_refl _
  | un k a hk ha ih =>
    rw [sim_one a (K1_ne hk)]
    have := siz_op1 k 0 (VT_sim ha)
    simp only [opE, sizE, sizL]; omega
  | pow n a h1 h2 ha ih =>
    rw [sim_one a (by omega)]
    have := siz_op1 8 n (VT_sim ha)
    simp only [opE, sizE, sizL]; omega
  | bin k a b hk ha hb ih1 ih2 =>
    rw [sim_two a b (K2_ne hk)]
    have := siz_op2 k (simE a) (VT_sim hb)
    simp only [opE, sizE, sizL]; omega
theorem ok_sim {e : Ex} (h : okT e = true) : okT (simE e) = true := by
  have h1 := (okT_iff e).1 h
  have hv := okT_VT h
  have h2 := dep_sim hv
  have h3 := siz_sim hv
  exact (okT_iff _).2 ⟨VT_VS (VT_sim hv), by omega, by omega⟩
end Go.Proofs.YtnijmbnkcmhfpaaGreatDoor
