/-
  Exact values: rational numbers; what the simple forms are worth.
-/
import Derived.Test.YtnijmbnkcmhfpaaGreatDoorQVb
import Derived.Test.YtnijmbnkcmhfpaaGreatDoorQWx
import Derived.Test.YtnijmbnkcmhfpaaGreatDoorQTd
set_option linter.unusedVariables false
set_option linter.unusedSimpArgs false
namespace Go.Proofs.YtnijmbnkcmhfpaaGreatDoor
open Go Go.Sx
def rv (r : Rt) : Rat := (r.n : Rat) / (r.d : Rat)
theorem rat_ne {a : Int} (h : a ≠ 0) : (a : Rat) ≠ 0 := by
  intro e
  exact h (by exact_mod_cast e)
theorem rdiv_eq {a b c d : Int} (hb : b ≠ 0) (hd : d ≠ 0) (h : a * d = c * b) : (a : Rat) / (b : Rat) = (c : Rat) / (d : Rat) := by
  have hb := rat_ne hb
  have hd := rat_ne hd
  have h : (a : Rat) * (d : Rat) = (c : Rat) * (b : Rat) := by exact_mod_cast h
  grind
theorem req_div {a b c d : Int} (hb : b ≠ 0) (hd : d ≠ 0) (h : (a : Rat) / (b : Rat) = (c : Rat) / (d : Rat)) : a * d = c * b := by
  have hb := rat_ne hb
  have hd := rat_ne hd
  have h : (a : Rat) * (d : Rat) = (c : Rat) * (b : Rat) := by grind
  exact_mod_cast h
theorem rMake_val {n d : Int} (hd : d ≠ 0) : ((rMake n d).2 = 0 ∧ rv (rMake n d).1 = (n : Rat) / (d : Rat)) ∨ (rMake n d).2 = 9 := by
  unfold rMake
  rw [if_neg hd]
  cases hl : low (decide (n < 0) != decide (d < 0)) n.natAbs d.natAbs with
  | none => exact .inr rfl
  | some r =>
    refine .inl ⟨rfl, ?_⟩
    unfold low at hl
    split at hl
    · cases hl
      have hg : 0 < Nat.gcd n.natAbs d.natAbs := Nat.gcd_pos_of_pos_right _ (by omega)
      have h1 := Nat.div_mul_cancel (Nat.gcd_dvd_left n.natAbs d.natAbs)
      have h2 := Nat.div_mul_cancel (Nat.gcd_dvd_right n.natAbs d.natAbs)
      generalize Nat.gcd n.natAbs d.natAbs = g at *
      generalize n.natAbs / g = p at *
      generalize d.natAbs / g = q at *
      unfold rv
      have hq : (q : Int) ≠ 0 := by
        intro e; have : q = 0 := by omega
        subst this; simp at h2; omega
      have h1' : (p : Int) * g = n.natAbs := by exact_mod_cast h1
      have h2' : (q : Int) * g = d.natAbs := by exact_mod_cast h2
      refine rdiv_eq hq hd ?_
      have hgz : (g : Int) ≠ 0 := by omega
      apply Int.eq_of_mul_eq_mul_right hgz
      by_cases a : n < 0 <;> by_cases b : d < 0 <;> simp [a, b]
      · have e1 : (p : Int) * g = -n := by omega
        have e2 : (q : Int) * g = -d := by omega
        grind
      · have e1 : (p : Int) * g = -n := by omega
        have e2 : (q : Int) * g = d := by omega
        grind
      · have e1 : (p : Int) * g = n := by omega
        have e2 : (q : Int) * g = -d := by omega
        grind
      · have e1 : (p : Int) * g = n := by omega
        have e2 : (q : Int) * g = d := by omega
        grind
    · cases hl
theorem rv_inj {r s : Rt} (hr : rOk r = true) (hs : rOk s = true) (h : rv r = rv s) : r = s := by
  simp only [rOk, Bool.and_eq_true, decide_eq_true_eq, beq_iff_eq] at hr hs
  obtain ⟨⟨r1, _, _, _⟩, r2⟩ := hr
  obtain ⟨⟨s1, _, _, _⟩, s2⟩ := hs
  obtain ⟨a, b⟩ := r
  obtain ⟨c, d⟩ := s
  simp only at *
  have e   := req_div (b := b) (d := d) (by omega) (by omega) h
  have e2 : a.natAbs * d.natAbs = c.natAbs * b.natAbs := by
    rw [← Int.natAbs_mul, ← Int.natAbs_mul, e]
  have hbd : b.natAbs ∣ d.natAbs := by
    have : b.natAbs ∣ a.natAbs * d.natAbs := by rw [e2]; exact Nat.dvd_mul_left _ _
    exact Nat.Coprime.dvd_of_dvd_mul_left (Nat.Coprime.symm r2) this
  have hdb : d.natAbs ∣ b.natAbs := by
    have : d.natAbs ∣ c.natAbs * b.natAbs := by rw [← e2]; exact Nat.dvd_mul_left _ _
    exact Nat.Coprime.dvd_of_dvd_mul_left (Nat.Coprime.symm s2) this
  have hb : b.natAbs = d.natAbs := Nat.dvd_antisymm hbd hdb
  obtain rfl : b = d := by omega
  have : a = c := Int.eq_of_mul_eq_mul_right (a := b) (by omega) e
  rw [this]

theorem rd_ne {r : Rt} (h : rOk r = true) : r.d ≠ 0 := by have := (rOk_in h).1; omega
/-- An operation that is done, with this value, or too big. -/
def Done (p : Rt × Int) (x : Rat) : Prop := (p.2 = 0 ∧ rOk p.1 = true ∧ rv p.1 = x) ∨ p.2 = 9
theorem done_make {n d : Int} {x : Rat} (hd : d ≠ 0) (h : (n : Rat) / (d : Rat) = x) : Done (rMake n d) x := by
  rcases rMake_val (n := n) hd with ⟨h1, h2⟩ | h1
  · exact .inl ⟨h1, rMake_ok h1, by rw [h2, h]⟩
  · exact .inr h1
theorem add_done {a b : Rt} (ha : rOk a = true) (hb : rOk b = true) : Done (rAdd a b) (rv a + rv b) := by
  unfold rAdd
  rw [rOp_yes ha hb]
  have h1 := rd_ne ha
  have h2 := rd_ne hb
  refine done_make (Int.mul_ne_zero h1 h2) ?_
  have h1 := rat_ne h1
  have h2 := rat_ne h2
  unfold rv
  simp only [Rat.intCast_add, Rat.intCast_mul]
  grind
theorem sub_done {a b : Rt} (ha : rOk a = true) (hb : rOk b = true) : Done (rSub a b) (rv a - rv b) := by
  unfold rSub
  rw [rOp_yes ha hb]
  have h1 := rd_ne ha
  have h2 := rd_ne hb
  refine done_make (Int.mul_ne_zero h1 h2) ?_
  have h1 := rat_ne h1
  have h2 := rat_ne h2
  unfold rv
  simp only [Rat.intCast_sub, Rat.intCast_mul]
  grind
theorem mul_done {a b : Rt} (ha : rOk a = true) (hb : rOk b = true) : Done (rMul a b) (rv a * rv b) := by
  unfold rMul
  rw [rOp_yes ha hb]
  have h1 := rd_ne ha
  have h2 := rd_ne hb
  refine done_make (Int.mul_ne_zero h1 h2) ?_
  have h1 := rat_ne h1
  have h2 := rat_ne h2
  unfold rv
  simp only [Rat.intCast_mul]
  grind
theorem rv_zero {b : Rt} (hb : rOk b = true) : rv b = 0 ↔ b.n = 0 := by
  have h2 := rat_ne (rd_ne hb)
  unfold rv
  constructor
  · intro h
    have h3 : (b.n : Rat) = 0 := by grind
    exact_mod_cast h3
  · intro h
    rw [h]; grind
theorem div_done {a b : Rt} (ha : rOk a = true) (hb : rOk b = true) (h0 : rv b ≠ 0) : Done (rDiv a b) (rv a / rv b) := by
  unfold rDiv
  rw [rOp_yes ha hb]
  have h1 := rd_ne ha
  have h2 := rd_ne hb
  have h3 : b.n ≠ 0 := fun e => h0 ((rv_zero hb).2 e)
  refine done_make (Int.mul_ne_zero h1 h3) ?_
  have h1 := rat_ne h1
  have h2 := rat_ne h2
  have h3 := rat_ne h3
  unfold rv
  simp only [Rat.intCast_mul]
  grind
theorem div_zero {a b : Rt} (ha : rOk a = true) (hb : rOk b = true) (h0 : rv b = 0) : (rDiv a b).2 = 10 := by
  unfold rDiv
  rw [rOp_yes ha hb, (rv_zero hb).1 h0]
  simp [rMake]
theorem rv_one (n : Int) : rv ⟨n, 1⟩ = (n : Rat) := by
  show (n : Rat) / ((1 : Int) : Rat) = n
  have : ((1 : Int) : Rat) = 1 := rfl
  rw [this]; grind
theorem pow_done {a : Rt} (ha : rOk a = true) : ∀ (n : Nat) (r : Rt), rOk r = true → Done (powX a n r) (rv r * rv a ^ n)
  | 0, r, hr => .inl ⟨rfl, hr, by simp [powX, Rat.pow_zero]⟩
  | n + 1, r, hr => by
    simp only [powX]
    rcases mul_done hr ha with ⟨h1, h2, h3⟩ | h1
    · rw [if_pos h1]
      have := pow_done ha n _ h2
      rw [h3] at this
      rw [Rat.pow_succ]
      have e : rv r * rv a * rv a ^ n = rv r * (rv a ^ n * rv a) := by grind
      rw [← e]; exact this
    · rw [if_neg (by omega)]; exact .inr h1
/-! ### Values -/
def qop1 (k n : Int) : Option Rat → Option Rat
  | none => none
  | some a => if k = 7 then some (-a) else if k = 8 then some (a ^ n.toNat) else none
def qop2 (k : Int) : Option Rat → Option Rat → Option Rat
  | some a, some b => if k = 3 then some (a + b) else if k = 4 then some (a - b) else if k = 5 then some (a * b) else if b = 0 then none else some (a / b)
  | _, _ => none
def qopL (k n : Int) : List (Option Rat) → Option Rat
  | [a] => qop1 k n a
  | [a, b] => qop2 k a b
  | _ => none
mutual
def qv (ρ : Bytes → Rat) : Ex → Option Rat
  | .mk k q s p l => if k = 1 then some (rv q) else if k = 2 then some (ρ s) else qopL k p (qvL ρ l)
def qvL (ρ : Bytes → Rat) : List Ex → List (Option Rat)
  | [] => []
  | x :: l => qv ρ x :: qvL ρ l
end
theorem qv_rat (ρ : Bytes → Rat) (r : Rt) : qv ρ (ratE r) = some (rv r) := by simp [ratE, qv]
theorem qv_num (ρ : Bytes → Rat) (n : Int) : qv ρ (numE n) = some (n : Rat) := by simp [numE, qv, rv_one]
theorem qv_var (ρ : Bytes → Rat) (s : Bytes) : qv ρ (varE s) = some (ρ s) := by simp [varE, qv]
theorem qv_one (ρ : Bytes → Rat) {k n : Int} (a : Ex) (h : k ≠ 1 ∧ k ≠ 2) : qv ρ (opE k n [a]) = qop1 k n (qv ρ a) := by simp [opE, qv, qvL, qopL, h]
theorem qv_two (ρ : Bytes → Rat) {k : Int} (a b : Ex) (h : k ≠ 1 ∧ k ≠ 2) : qv ρ (opE k 0 [a, b]) = qop2 k (qv ρ a) (qv ρ b) := by simp [opE, qv, qvL, qopL, h]
theorem xc_rat (es : Env0) (r : Rt) : xcE es (ratE r) = (r, 0) := by simp [ratE, xcE]
theorem xc_var (es : Env0) (s : Bytes) : xcE es (varE s) = (mget .str s ⟨0, 0⟩ es, 0) := by simp [varE, xcE]
theorem xc_neg (es : Env0) (a : Ex) : xcE es (opE 7 0 [a]) = if (xcE es a).2 = 0 then rSub ⟨0, 1⟩ (xcE es a).1 else xcE es a := by simp [opE, xcE, xcL, xop]
theorem xc_pow (es : Env0) (n : Int) (a : Ex) : xcE es (opE 8 n [a]) = if (xcE es a).2 = 0 then powX (xcE es a).1 n.toNat ⟨1, 1⟩ else xcE es a := by simp [opE, xcE, xcL, xop]
theorem xc_two (es : Env0) (k : Int) (a b : Ex) (h1 : k ≠ 1) (h2 : k ≠ 2) : xcE es (opE k 0 [a, b]) = if (xcE es a).2 = 0 then (if (xcE es b).2 = 0 then xop k 0 (xcE es a).1 (xcE es b).1 else xcE es b) else xcE es a := by simp [opE, xcE, xcL, h1, h2]
/-- All variables of an expression have values, which are valid. -/
def VarsOk (es : Env0) (e : Ex) : Prop := ∀ y ∈ preE e, y.k = 2 → rOk (mget .str y.s ⟨0, 0⟩ es) = true
theorem done_ok {p : Rt × Int} {x : Rat} (h : Done p x) (h0 : p.2 = 0) : rOk p.1 = true ∧ rv p.1 = x := by
  rcases h with ⟨_, h2, h3⟩ | h1
  · exact ⟨h2, h3⟩
  · omega
theorem done_err {p : Rt × Int} {x y : Rat} (h : Done p x) (h0 : p.2 ≠ 0) : Done p y := by
  rcases h with ⟨h1, _⟩ | h1
  · exact absurd h1 h0
  · exact .inr h1
abbrev rho (es : Env0) : Bytes → Rat := fun s => rv (mget .str s ⟨0, 0⟩ es)
theorem rv01 : rv ⟨0, 1⟩ = 0 := by rw [rv_one]; rfl
theorem ok01' : rOk ⟨0, 1⟩ = true := rOk_one (by omega)
/-- Where there is a value, exactly gives it, or something is too big; what exactly gives is a value. -/
theorem xc_val (es : Env0) {e : Ex} (h : VT e) (hr : allE (fun y => decide (y.k < 9)) e = true) (hv : VarsOk es e) :
    (∀ x, qv (rho es) e = some x → Done (xcE es e) x) ∧ ((xcE es e).2 = 0 → ∃ x, qv (rho es) e = some x) := by
  induction h with
  | num r hr0 =>
    rw [qv_rat, xc_rat]
    exact ⟨fun x hx => .inl ⟨rfl, hr0, Option.some.inj hx⟩, fun _ => ⟨_, rfl⟩⟩
  | var s hs =>
    rw [qv_var, xc_var]
    exact ⟨fun x hx => .inl ⟨rfl, hv (varE s) (by simp [varE, preE, preL]) rfl, Option.some.inj hx⟩, fun _ => ⟨_, rfl⟩⟩
  | un k a hk _ ih =>
    have hr : (decide (k < 9) && (allE (fun y => decide (y.k < 9)) a && true)) = true := hr
    simp only [Bool.and_eq_true, decide_eq_true_eq, Bool.and_true] at hr
    obtain rfl : k = 7 := by unfold K1 at hk; omega
    obtain ⟨i1, i2⟩ := ih hr.2 fun y hy => hv y (by simp only [opE, preE, preL, List.append_nil]; exact List.mem_cons_of_mem _ hy)
    rw [qv_one _ a (by omega), xc_neg]
    constructor
    · intro x hx
      cases ha : qv (rho es) a with
      | none => rw [ha] at hx; simp [qop1] at hx
      | some y =>
        rw [ha] at hx
        have hx : -y = x := by simpa [qop1] using hx
        have hd := i1 y ha
        split
        · rename_i h0
          obtain ⟨h1, h2⟩ := done_ok hd h0
          have := sub_done ok01' h1
          rw [rv01, h2] at this
          rw [← hx]
          have e : (0 : Rat) - y = -y := by grind
          rw [← e]; exact this
        · rename_i h0; exact done_err hd h0
    · intro h0
      split at h0
      · rename_i h1
        obtain ⟨y, hy⟩ := i2 h1
        exact ⟨-y, by rw [hy]; simp [qop1]⟩
      · rename_i h1; exact absurd h0 h1
  | pow n a h1 h2 _ ih =>
    have hr : (decide ((8 : Int) < 9) && (allE (fun y => decide (y.k < 9)) a && true)) = true := hr
    simp only [Bool.and_eq_true, decide_eq_true_eq, Bool.and_true] at hr
    obtain ⟨i1, i2⟩ := ih hr.2 fun y hy => hv y (by simp only [opE, preE, preL, List.append_nil]; exact List.mem_cons_of_mem _ hy)
    rw [qv_one _ a (by omega), xc_pow]
    constructor
    · intro x hx
      cases ha : qv (rho es) a with
      | none => rw [ha] at hx; simp [qop1] at hx
      | some y =>
        rw [ha] at hx
        have hx : y ^ n.toNat = x := by simpa [qop1] using hx
        have hd := i1 y ha
        split
        · rename_i h0
          obtain ⟨h1, h2⟩ := done_ok hd h0
          have := pow_done h1 n.toNat ⟨1, 1⟩ (rOk_one (by omega))
          rw [rv_one, h2] at this
          rw [← hx]
          have e : ((1 : Int) : Rat) * y ^ n.toNat = y ^ n.toNat := by grind
          rw [← e]; exact this
        · rename_i h0; exact done_err hd h0
    · intro h0
      split at h0
      · rename_i h1
        obtain ⟨y, hy⟩ := i2 h1
        exact ⟨y ^ n.toNat, by rw [hy]; simp [qop1]⟩
      · rename_i h1; exact absurd h0 h1
  | bin k a b hk _ _ ih1 ih2 =>
    have hr : (decide (k < 9) && (allE (fun y => decide (y.k < 9)) a && (allE (fun y => decide (y.k < 9)) b && true))) = true := hr
    simp only [Bool.and_eq_true, decide_eq_true_eq, Bool.and_true] at hr
    obtain ⟨i1, i2⟩ := ih1 hr.2.1 fun y hy => hv y (by simp only [opE, preE, preL, List.append_nil]; exact List.mem_cons_of_mem _ (List.mem_append_left _ hy))
    obtain ⟨j1, j2⟩ := ih2 hr.2.2 fun y hy => hv y (by simp only [opE, preE, preL, List.append_nil]; exact List.mem_cons_of_mem _ (List.mem_append_right _ hy))
    have hkk : k ≠ 1 ∧ k ≠ 2 := K2_ne hk
    rw [qv_two _ a b hkk, xc_two es k a b hkk.1 hkk.2]
    constructor
    · intro x hx
      cases ha : qv (rho es) a with
      | none => rw [ha] at hx; simp [qop2] at hx
      | some y =>
        cases hb : qv (rho es) b with
        | none => rw [ha, hb] at hx; simp [qop2] at hx
        | some z =>
          rw [ha, hb] at hx
          have hd := i1 y ha
          have he := j1 z hb
          split
          · rename_i h0
            obtain ⟨h1, h2⟩ := done_ok hd h0
            split
            · rename_i g0
              obtain ⟨g1, g2⟩ := done_ok he g0
              rcases hk with rfl | rfl | rfl | rfl
              · have hx : y + z = x := by simpa [qop2] using hx
                have := add_done h1 g1
                rw [h2, g2, hx] at this
                simpa [xop] using this
              · have hx : y - z = x := by simpa [qop2] using hx
                have := sub_done h1 g1
                rw [h2, g2, hx] at this
                simpa [xop] using this
              · have hx : y * z = x := by simpa [qop2] using hx
                have := mul_done h1 g1
                rw [h2, g2, hx] at this
                simpa [xop] using this
              · by_cases hz : z = 0
                · simp [qop2, hz] at hx
                · have hx : y / z = x := by simpa [qop2, hz] using hx
                  have := div_done h1 g1 (by rw [g2]; exact hz)
                  rw [h2, g2, hx] at this
                  simpa [xop] using this
            · rename_i g0; exact done_err he g0
          · rename_i h0; exact done_err hd h0
    · intro h0
      split at h0
      · rename_i h1
        split at h0
        · rename_i g1
          obtain ⟨y, hy⟩ := i2 h1
          obtain ⟨z, hz⟩ := j2 g1
          rw [hy, hz]
          rcases hk with rfl | rfl | rfl | rfl
          · exact ⟨y + z, by simp [qop2]⟩
          · exact ⟨y - z, by simp [qop2]⟩
          · exact ⟨y * z, by simp [qop2]⟩
          · by_cases hz0 : z = 0
            · have hd := done_ok (i1 y hy) h1
              have he := done_ok (j1 z hz) g1
              have h9 := div_zero hd.1 he.1 (by rw [he.2]; exact hz0)
              have h0' : (rDiv (xcE es a).1 (xcE es b).1).2 = 0 := by simpa [xop] using h0
              omega
            · exact ⟨y / z, by simp [qop2, hz0]⟩
        · rename_i g1; exact absurd h0 g1
      · rename_i h1; exact absurd h0 h1
/-! ### Simple forms are worth the same -/
theorem okN_some {p : Rt × Int} {r : Rt} (h : okN p = some r) : p.2 = 0 ∧ p.1 = r := by
  unfold okN at h
  split at h
  · rename_i h0; exact ⟨h0, Option.some.inj h⟩
  · cases h
theorem powN_val {a : Rt} (ha : rOk a = true) : ∀ (n : Nat) (r : Rt) (s : Rt), rOk r = true → powN a n r = some s → rv s = rv r * rv a ^ n
  | 0, r, s, hr, h => by
    have h : r = s := Option.some.inj h
    subst h
    rw [Rat.pow_zero]; grind
  | n + 1, r, s, hr, h => by
    simp only [powN] at h
    split at h
    · rename_i r' hr'
      obtain ⟨h1, h2⟩ := okN_some hr'
      obtain ⟨h3, h4⟩ := done_ok (mul_done hr ha) h1
      rw [h2] at h3 h4
      have := powN_val ha n r' s h3 h
      rw [this, h4, Rat.pow_succ]; grind
    · cases h
theorem VT_num {a : Ex} (h : VT a) (hk : a.k = 1) : ∃ r, rOk r = true ∧ a = ratE r := by
  cases h with
  | num r hr => exact ⟨r, hr, rfl⟩
  | var s hs => simp [varE, Ex.k] at hk
  | un k a h1 _ => simp [opE, Ex.k] at hk; unfold K1 at h1; omega
  | pow n a _ _ _ => simp [opE, Ex.k] at hk
  | bin k a b h1 _ _ => simp [opE, Ex.k] at hk; unfold K2 at h1; omega
theorem isB_val {ρ : Bytes → Rat} {a : Ex} {n : Int} (h : isB a n = true) {y : Rat} (ha : VT a) (hy : qv ρ a = some y) : y = (n : Rat) := by
  simp only [isB, Bool.and_eq_true, beq_iff_eq] at h
  obtain ⟨r, _, rfl⟩ := VT_num ha h.1
  rw [qv_rat] at hy
  obtain ⟨n', d'⟩ := r
  have h1 : n' = n := h.2.1
  have h2 : d' = 1 := h.2.2
  subst h1; subst h2
  rw [← Option.some.inj hy, rv_one]
theorem sim1_val {ρ : Bytes → Rat} {k n : Int} {a : Ex} (hk : k = 7 ∨ k = 8) (hn : 0 ≤ n) (ha : VT a) {x : Rat} (h : qop1 k n (qv ρ a) = some x) : qv ρ (op1 k n a) = some x := by
  cases hy : qv ρ a with
  | none => rw [hy] at h; simp [qop1] at h
  | some y =>
    rw [hy] at h
    unfold op1
    cases hf : foldN k n [a] with
    | some r =>
      simp only
      rw [qv_rat]
      unfold foldN at hf
      split at hf
      · rename_i hall
        have hka : a.k = 1 := by simpa using hall
        obtain ⟨s, hs, rfl⟩ := VT_num ha hka
        rw [qv_rat] at hy
        have hy : rv s = y := Option.some.inj hy
        have hq : q0 [ratE s] = s := rfl
        rw [hq] at hf
        rcases hk with rfl | rfl
        · have hx : -y = x := by simpa [qop1] using h
          have hf : okN (rSub ⟨0, 1⟩ s) = some r := by simpa using hf
          obtain ⟨h1, h2⟩ := okN_some hf
          obtain ⟨_, h4⟩ := done_ok (sub_done ok01' hs) h1
          rw [h2, rv01] at h4
          rw [h4, ← hx, ← hy]; congr 1; grind
        · have hx : y ^ n.toNat = x := by simpa [qop1] using h
          have hf : powN s n.toNat ⟨1, 1⟩ = some r := by simpa using hf
          have := powN_val hs n.toNat ⟨1, 1⟩ r (rOk_one (by omega)) hf
          rw [rv_one, hy, hx] at this
          rw [this]; congr 1; grind
      · cases hf
    | none =>
      simp only
      have hop : qv ρ (opE k n [a]) = some x := by rw [qv_one ρ a (by omega), hy]; exact h
      unfold sim1
      rcases hk with rfl | rfl
      · rw [if_pos rfl]
        split
        · rename_i h7
          cases ha with
          | num r hr => simp [ratE, Ex.k] at h7
          | var s hs => simp [varE, Ex.k] at h7
          | pow n a _ _ _ => simp [opE, Ex.k] at h7
          | bin k a b h1 _ _ => simp [opE, Ex.k] at h7; unfold K2 at h1; omega
          | un k z h1 hz =>
            have h7 : k = 7 := by simpa [opE, Ex.k] using h7
            subst h7
            show qv ρ z = some x
            rw [qv_one ρ z (by omega)] at hy
            cases hz' : qv ρ z with
            | none => rw [hz'] at hy; simp [qop1] at hy
            | some u =>
              rw [hz'] at hy
              have hy : -u = y := by simpa [qop1] using hy
              have hx : -y = x := by simpa [qop1] using h
              rw [← hx, ← hy]; congr 1; grind
        · exact hop
      · rw [if_neg (by omega), if_pos rfl]
        have hx : y ^ n.toNat = x := by simpa [qop1] using h
        split
        · rename_i h0
          subst h0
          rw [qv_num, ← hx]
          simp only [Int.toNat_zero, Rat.pow_zero]; rfl
        · split
          · rename_i h1
            subst h1
            rw [hy, ← hx]
            have : y ^ (1 : Int).toNat = y := by show y ^ 1 = y; grind
            rw [this]
          · exact hop
theorem sim2_val {ρ : Bytes → Rat} {k : Int} {a b : Ex} (hk : K2 k) (ha : VT a) (hb : VT b) {x : Rat} (h : qop2 k (qv ρ a) (qv ρ b) = some x) : qv ρ (op2 k a b) = some x := by
  cases hy : qv ρ a with
  | none => rw [hy] at h; simp [qop2] at h
  | some y =>
    cases hz : qv ρ b with
    | none => rw [hy, hz] at h; simp [qop2] at h
    | some z =>
      rw [hy, hz] at h
      unfold op2
      cases hf : foldN k 0 [a, b] with
      | some r =>
        simp only
        rw [qv_rat]
        unfold foldN at hf
        split at hf
        · rename_i hall
          have hka : a.k = 1 ∧ b.k = 1 := by simpa using hall
          obtain ⟨s, hs, rfl⟩ := VT_num ha hka.1
          obtain ⟨t, ht, rfl⟩ := VT_num hb hka.2
          rw [qv_rat] at hy hz
          have hy : rv s = y := Option.some.inj hy
          have hz : rv t = z := Option.some.inj hz
          have hq : q0 [ratE s, ratE t] = s := rfl
          have hq1 : q1 [ratE s, ratE t] = t := rfl
          rw [hq, hq1] at hf
          rcases hk with rfl | rfl | rfl | rfl
          · have hx : y + z = x := by simpa [qop2] using h
            have hf : okN (rAdd s t) = some r := by simpa using hf
            obtain ⟨h1, h2⟩ := okN_some hf
            obtain ⟨_, h4⟩ := done_ok (add_done hs ht) h1
            rw [h2] at h4; rw [h4, ← hx, hy, hz]
          · have hx : y - z = x := by simpa [qop2] using h
            have hf : okN (rSub s t) = some r := by simpa using hf
            obtain ⟨h1, h2⟩ := okN_some hf
            obtain ⟨_, h4⟩ := done_ok (sub_done hs ht) h1
            rw [h2] at h4; rw [h4, ← hx, hy, hz]
          · have hx : y * z = x := by simpa [qop2] using h
            have hf : okN (rMul s t) = some r := by simpa using hf
            obtain ⟨h1, h2⟩ := okN_some hf
            obtain ⟨_, h4⟩ := done_ok (mul_done hs ht) h1
            rw [h2] at h4; rw [h4, ← hx, hy, hz]
          · by_cases hz0 : z = 0
            · simp [qop2, hz0] at h
            · have hx : y / z = x := by simpa [qop2, hz0] using h
              have hf : okN (rDiv s t) = some r := by simpa using hf
              obtain ⟨h1, h2⟩ := okN_some hf
              obtain ⟨_, h4⟩ := done_ok (div_done hs ht (by rw [hz]; exact hz0)) h1
              rw [h2] at h4; rw [h4, ← hx, hy, hz]
        · cases hf
      | none =>
        simp only
        have hop : qv ρ (opE k 0 [a, b]) = some x := by rw [qv_two ρ a b (K2_ne hk), hy, hz]; exact h
        have i0 : ∀ {u : Ex} {n : Int} {q : Rat}, VT u → qv ρ u = some q → isB u n = true → q = (n : Rat) := fun hu hq hi => isB_val hi hu hq
        have e0 : ((0 : Int) : Rat) = 0 := rfl
        have e1 : ((1 : Int) : Rat) = 1 := rfl
        unfold sim2
        rcases hk with rfl | rfl | rfl | rfl
        · rw [if_pos rfl]
          have hx : y + z = x := by simpa [qop2] using h
          split
          · rename_i h1; have := i0 ha hy h1; rw [hz, ← hx, this, e0]; congr 1; grind
          · split
            · rename_i h1; have := i0 hb hz h1; rw [hy, ← hx, this, e0]; congr 1; grind
            · exact hop
        · rw [if_neg (by omega), if_pos rfl]
          have hx : y - z = x := by simpa [qop2] using h
          split
          · rename_i h1; have := i0 hb hz h1; rw [hy, ← hx, this, e0]; congr 1; grind
          · split
            · rename_i h1
              have h2 := i0 ha hy h1
              have hneg : negS b = op1 7 0 b := by
                unfold negS op1
                cases foldN 7 0 [b] with
                | some r => rfl
                | none => simp only [sim1, if_true]
              rw [hneg]
              refine sim1_val (.inl rfl) (by omega) hb ?_
              rw [hz, ← hx, h2, e0]
              show some (-z) = some (0 - z)
              congr 1; grind
            · exact hop
        · rw [if_neg (by omega), if_neg (by omega), if_pos rfl]
          have hx : y * z = x := by simpa [qop2] using h
          split
          · rename_i h1
            rw [qv_num, ← hx, e0]
            rcases Bool.or_eq_true _ _ ▸ h1 with h2 | h2
            · rw [i0 ha hy h2, e0]; congr 1; grind
            · rw [i0 hb hz h2, e0]; congr 1; grind
          · split
            · rename_i h1; have := i0 ha hy h1; rw [hz, ← hx, this, e1]; congr 1; grind
            · split
              · rename_i h1; have := i0 hb hz h1; rw [hy, ← hx, this, e1]; congr 1; grind
              · exact hop
        · rw [if_neg (by omega), if_neg (by omega), if_neg (by omega)]
          by_cases hz0 : z = 0
          · simp [qop2, hz0] at h
          · have hx : y / z = x := by simpa [qop2, hz0] using h
            split
            · rename_i h1
              have h1 : isB a 0 = true := by simp at h1; exact h1.1
              rw [qv_num, ← hx, i0 ha hy h1, e0]; congr 1; grind
            · split
              · rename_i h1; have := i0 hb hz h1; rw [hy, ← hx, this, e1]; congr 1; grind
              · exact hop
theorem sim_val {ρ : Bytes → Rat} {e : Ex} (h : VT e) : ∀ x, qv ρ e = some x → qv ρ (simE e) = some x := by
  induction h with
  | num r _ => rw [sim_rat]; exact fun _ h => h
  | var s _ => rw [sim_var]; exact fun _ h => h
  | un k a hk ha ih =>
    intro x hx
    rw [sim_one a (K1_ne hk)]
    rw [qv_one ρ a (K1_ne hk)] at hx
    cases hy : qv ρ a with
    | none => rw [hy] at hx; simp [qop1] at hx
    | some y =>
      by_cases h7 : k = 7
      · rw [hy] at hx
        exact sim1_val (.inl h7) (by omega) (VT_sim ha) (by rw [ih y hy]; exact hx)
      · rw [hy] at hx
        have h8 : k ≠ 8 := by unfold K1 at hk; omega
        simp [qop1, h7, h8] at hx
  | pow n a h1 h2 ha ih =>
    intro x hx
    rw [sim_one a (by omega)]
    rw [qv_one ρ a (by omega)] at hx
    cases hy : qv ρ a with
    | none => rw [hy] at hx; simp [qop1] at hx
    | some y =>
      rw [hy] at hx
      exact sim1_val (.inr rfl) h1 (VT_sim ha) (by rw [ih y hy]; exact hx)
  | bin k a b hk ha hb ih1 ih2 =>
    intro x hx
    rw [sim_two a b (K2_ne hk)]
    rw [qv_two ρ a b (K2_ne hk)] at hx
    cases hy : qv ρ a with
    | none => rw [hy] at hx; simp [qop2] at hx
    | some y =>
      cases hz : qv ρ b with
      | none => rw [hy, hz] at hx; simp [qop2] at hx
      | some z =>
        rw [hy, hz] at hx
        exact sim2_val hk (VT_sim ha) (VT_sim hb) (by rw [ih1 y hy, ih2 z hz]; exact hx)
/-! ### Nodes of simple forms: no functions and no variables that were not there -/
/-- What holds of all variables and of all kinds. -/
inductive NV (p : Bytes → Prop) : Ex → Prop
  | num (r : Rt) : NV p (ratE r)
  | var (s : Bytes) : p s → NV p (varE s)
  | one (k n : Int) (a : Ex) : 3 ≤ k → k < 9 → NV p a → NV p (opE k n [a])
  | two (k : Int) (a b : Ex) : 3 ≤ k → k < 9 → NV p a → NV p b → NV p (opE k 0 [a, b])
theorem NV_child {p : Bytes → Prop} {x : Ex} (h : NV p (opE 7 0 [x])) : NV p x := by
  generalize he : opE 7 0 [x] = e at h
  cases h with
  | num r => simp [opE, ratE] at he
  | var s _ => simp [opE, varE] at he
  | one k n a _ _ ha => obtain ⟨_, _, h3⟩ := opE_inj he; simp at h3; rw [h3]; exact ha
  | two k a b _ _ _ _ => obtain ⟨_, _, h3⟩ := opE_inj he; simp at h3
theorem NV_op1 {p : Bytes → Prop} {k n : Int} {a : Ex} (h3 : 3 ≤ k) (h9 : k < 9) (hv : VT a) (ha : NV p a) : NV p (op1 k n a) := by
  rcases op1_cases k n a hv with ⟨r, _, e⟩ | e | ⟨_, _, e⟩ | ⟨x, _, _, ha', e⟩ <;> rw [e]
  · exact .num r
  · exact .one k n a h3 h9 ha
  · exact ha
  · rw [ha'] at ha; exact NV_child ha
theorem NV_op2 {p : Bytes → Prop} {k : Int} {a b : Ex} (h3 : 3 ≤ k) (h9 : k < 9) (hv : VT b) (ha : NV p a) (hb : NV p b) : NV p (op2 k a b) := by
  rcases op2_cases k a b with ⟨r, _, e⟩ | e | e | e | ⟨_, e⟩ <;> rw [e]
  · exact .num r
  · exact .two k a b h3 h9 ha hb
  · exact ha
  · exact hb
  · exact NV_op1 (by omega) (by omega) hv hb
theorem NV_sim {p : Bytes → Prop} {e : Ex} (h : VT e) (hn : NV p e) : NV p (simE e) := by
  induction h with
  | num r _ => rw [sim_rat]; exact hn
  | var s _ => rw [sim_var]; exact hn
  | un k a hk ha ih =>
    rw [sim_one a (K1_ne hk)]
    generalize he : opE k 0 [a] = e at hn
    cases hn with
    | num r => simp [opE, ratE] at he
    | var s _ => simp [opE, varE] at he
    | one k' n a' h3 h9 ha' => obtain ⟨e1, _, e3⟩ := opE_inj he; simp at e3; subst e3; exact NV_op1 (by omega) (by omega) (VT_sim ha) (ih ha')
    | two k' a' b' _ _ _ _ => obtain ⟨_, _, e3⟩ := opE_inj he; simp at e3
  | pow n a h1 h2 ha ih =>
    rw [sim_one a (by omega)]
    generalize he : opE 8 n [a] = e at hn
    cases hn with
    | num r => simp [opE, ratE] at he
    | var s _ => simp [opE, varE] at he
    | one k' n' a' h3 h9 ha' => obtain ⟨e1, _, e3⟩ := opE_inj he; simp at e3; subst e3; exact NV_op1 (by omega) (by omega) (VT_sim ha) (ih ha')
    | two k' a' b' _ _ _ _ => obtain ⟨_, _, e3⟩ := opE_inj he; simp at e3
  | bin k a b hk ha hb ih1 ih2 =>
    rw [sim_two a b (K2_ne hk)]
    generalize he : opE k 0 [a, b] = e at hn
    cases hn with
    | num r => simp [opE, ratE] at he
    | var s _ => simp [opE, varE] at he
    | one k' n' a' _ _ _ => obtain ⟨_, _, e3⟩ := opE_inj he; simp at e3
    | two k' a' b' h3 h9 ha' hb' =>
      obtain ⟨e1, _, e3⟩ := opE_inj he
      simp at e3
      obtain ⟨rfl, rfl⟩ := e3
      exact NV_op2 (by omega) (by omega) (VT_sim hb) (ih1 ha') (ih2 hb')
theorem NV_of {p : Bytes → Prop} {e : Ex} (h : VT e) (hr : allE (fun y => decide (y.k < 9)) e = true) (hp : ∀ y ∈ preE e, y.k = 2 → p y.s) : NV p e := by
  induction h with
  | num r _ => exact .num r
  | var s _ => exact .var s (hp (varE s) (by simp [varE, preE, preL]) rfl)
  | un k a hk _ ih =>
    have hr : (decide (k < 9) && (allE (fun y => decide (y.k < 9)) a && true)) = true := hr
    simp only [Bool.and_eq_true, decide_eq_true_eq, Bool.and_true] at hr
    exact .one k 0 a (by unfold K1 at hk; omega) hr.1 (ih hr.2 fun y hy => hp y (by simp only [opE, preE, preL, List.append_nil]; exact List.mem_cons_of_mem _ hy))
  | pow n a h1 h2 _ ih =>
    have hr : (decide ((8 : Int) < 9) && (allE (fun y => decide (y.k < 9)) a && true)) = true := hr
    simp only [Bool.and_eq_true, decide_eq_true_eq, Bool.and_true] at hr
    exact .one 8 n a (by omega) (by omega) (ih hr.2 fun y hy => hp y (by simp only [opE, preE, preL, List.append_nil]; exact List.mem_cons_of_mem _ hy))
  | bin k a b hk _ _ ih1 ih2 =>
    have hr : (decide (k < 9) && (allE (fun y => decide (y.k < 9)) a && (allE (fun y => decide (y.k < 9)) b && true))) = true := hr
    simp only [Bool.and_eq_true, decide_eq_true_eq, Bool.and_true] at hr
    exact .two k a b (by unfold K2 at hk; omega) hr.1 (ih1 hr.2.1 fun y hy => hp y (by simp only [opE, preE, preL, List.append_nil]; exact List.mem_cons_of_mem _ (List.mem_append_left _ hy))) (ih2 hr.2.2 fun y hy => hp y (by simp only [opE, preE, preL, List.append_nil]; exact List.mem_cons_of_mem _ (List.mem_append_right _ hy)))
theorem NV_all {p : Bytes → Prop} {e : Ex} (h : NV p e) : allE (fun y => decide (y.k < 9)) e = true ∧ ∀ y ∈ preE e, y.k = 2 → p y.s := by
  induction h with
  | num r => exact ⟨rfl, fun y hy h2 => by simp [ratE, preE, preL] at hy; subst hy; simp [Ex.k] at h2⟩
  | var s hs => exact ⟨rfl, fun y hy h2 => by simp [varE, preE, preL] at hy; subst hy; exact hs⟩
  | one k n a h3 h9 _ ih =>
    refine ⟨?_, fun y hy h2 => ?_⟩
    · show (decide (k < 9) && (allE (fun y => decide (y.k < 9)) a && true)) = true
      simp [h9, ih.1]
    · simp only [opE, preE, preL, List.append_nil] at hy
      rcases List.mem_cons.1 hy with rfl | hy
      · have : k = 2 := h2
        omega
      · exact ih.2 y hy h2
  | two k a b h3 h9 _ _ ih1 ih2 =>
    refine ⟨?_, fun y hy h2 => ?_⟩
    · show (decide (k < 9) && (allE (fun y => decide (y.k < 9)) a && (allE (fun y => decide (y.k < 9)) b && true))) = true
      simp [h9, ih1.1, ih2.1]
    · simp only [opE, preE, preL, List.append_nil] at hy
      rcases List.mem_cons.1 hy with rfl | hy
      · have : k = 2 := h2
        omega
      · rcases List.mem_append.1 hy with hy | hy
        · exact ih1.2 y hy h2
        · exact ih2.2 y hy h2
end Go.Proofs.YtnijmbnkcmhfpaaGreatDoor

/-
  Simple forms keep exact values.
-/
namespace Go.Proofs.YtnijmbnkcmhfpaaGreatDoor
open Go Go.Sx
theorem nm_all {e : Ex} (h : okT e = true) (es : Env0) : (nmE e).all (hasN es) = true ↔ ∀ y ∈ preE e, y.k = 2 → hasN es y.s = true := by
  rw [List.all_eq_true]
  constructor
  · intro h1 y hy h2; exact h1 y.s ((mem_nmE h).2 ⟨y, hy, h2, rfl⟩)
  · intro h1 s hs
    obtain ⟨y, hy, h2, rfl⟩ := (mem_nmE h).1 hs
    exact h1 y hy h2
def EnvA (es : Env0) : Prop := ∀ p ∈ es, rOk p.2 = true
theorem mem_mput {n : Bytes} {r : Rt} : ∀ {es : Env0} {p : Bytes × Rt}, p ∈ mput .str n r es → p.2 = r ∨ p ∈ es
  | [], p, h => by
    simp only [mput, List.mem_singleton] at h
    exact .inl (by rw [h])
  | (y, v) :: l, p, h => by
    simp only [mput] at h
    cases hk : keyB .str n y with
    | true =>
      simp only [hk, cond_true] at h
      rcases List.mem_cons.1 h with h1 | h1
      · exact .inl (by rw [h1])
      · exact .inr (List.mem_cons_of_mem _ h1)
    | false =>
      simp only [hk, cond_false] at h
      rcases List.mem_cons.1 h with h1 | h1
      · exact .inr (by rw [h1]; exact List.mem_cons_self)
      · exact (mem_mput h1).imp id (List.mem_cons_of_mem _)
theorem mget_mem {s : Bytes} {z : Rt} : ∀ {es : Env0}, mhas .str s es = true → ∃ p ∈ es, mget .str s z es = p.2
  | [], h => by simp [mhas] at h
  | (y, v) :: l, h => by
    cases hk : keyB .str s y with
    | true => exact ⟨(y, v), List.mem_cons_self, by simp [mget, hk]⟩
    | false =>
      have h : mhas .str s l = true := by simpa [mhas, hk] using h
      obtain ⟨p, h1, h2⟩ := mget_mem h (z := z)
      exact ⟨p, List.mem_cons_of_mem _ h1, by simpa [mget, hk] using h2⟩
theorem envA_L : ∀ {ns : List Bytes} {rs : List Rt} {es : Env0}, rs.all rOk = true → EnvA es → EnvA (envL ns rs es)
  | [], _, _, _, h => h
  | _ :: _, [], _, _, h => h
  | n :: ns, r :: rs, es, hr, h => by
    simp only [List.all_cons, Bool.and_eq_true] at hr
    exact envA_L (es := mput .str n r es) hr.2 fun p hp => (mem_mput hp).elim (fun e => by rw [e]; exact hr.1) (h p)
theorem ex_keeps {e : Ex} {ns : List Bytes} {rs : List Rt} {r : Rt} (ho : okT e = true) (h : exF e ns rs = (r, 0)) : exF (simE e) ns rs = (r, 0) ∨ ∃ z, exF (simE e) ns rs = (z, 9) := by
  have hv := okT_VT ho
  have hos := ok_sim ho
  unfold exF at h
  split at h
  · rename_i hc
    obtain ⟨hc1, hc2, hc3, hc4, hc5⟩ := hc
    have hr := (ratB_ok hc3).2
    generalize hes : envL ns rs [] = es at *
    have hA : EnvA es := by rw [← hes]; exact envA_L hc4 (fun p hp => by simp at hp)
    have hvars := (nm_all ho es).1 hc5
    have hok : ∀ s, hasN es s = true → rOk (mget .str s ⟨0, 0⟩ es) = true := fun s hs => by
      obtain ⟨p, h1, h2⟩ := mget_mem (z := ⟨0, 0⟩) hs
      rw [h2]; exact hA p h1
    obtain ⟨sr, sv⟩ := NV_all (NV_sim hv (NV_of (p := fun s => hasN es s = true) hv hr hvars))
    have x1 := xc_val es hv hr fun y hy h2 => hok _ (hvars y hy h2)
    have x2 := xc_val es (VT_sim hv) sr fun y hy h2 => hok _ (sv y hy h2)
    have hcs : (ns.length = rs.length ∧ ns.length ≤ 200) ∧ (envL ns rs []).length = rs.length ∧ ratB (simE e) = true ∧ rs.all rOk = true ∧ (nmE (simE e)).all (hasN (envL ns rs [])) = true := by
      rw [hes]
      exact ⟨hc1, hc2, by unfold ratB; rw [hos, sr]; rfl, hc4, (nm_all hos es).2 sv⟩
    unfold exF
    rw [if_pos hcs, hes]
    split at h
    · rename_i h0
      obtain ⟨x, hx⟩ := x1.2 h0
      obtain ⟨d1, d2⟩ := done_ok (x1.1 x hx) h0
      have d3 := x2.1 x (sim_val hv x hx)
      rw [h] at d1 d2
      rcases d3 with ⟨e1, e2, e3⟩ | e1
      · left
        rw [if_pos e1]
        have : (xcE es (simE e)).1 = r := rv_inj e2 d1 (by rw [e3, d2])
        rw [← this, ← e1]
      · right
        rw [if_neg (by omega), e1]
        exact ⟨_, rfl⟩
    · rename_i h0
      simp only [Prod.mk.injEq] at h
      exact absurd h.2 h0
  · simp at h
end Go.Proofs.YtnijmbnkcmhfpaaGreatDoor
