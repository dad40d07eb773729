/-
  Exact values: rational numbers; what the simple forms are worth.
-/
import Derived.Test.YtmcdnbmamoggoaaQVb
import Derived.Test.YtmcdnbmamoggoaaQWx
import Derived.Test.YtmcdnbmamoggoaaQUs
import Derived.Test.YtmcdnbmamoggoaaQUL
set_option linter.unusedVariables false
set_option linter.unusedSimpArgs false
namespace Go.Proofs.Ytmcdnbmamoggoaa
open Go Go.Sx
def rv (r : Rt) : Rat := (r.n : Rat) / (r.d : Rat)
theorem rat_ne {a : Int} (h : a ≠ 0) : (a : Rat) ≠ 0 := by
  intro e
  exact h (by exact_mod_cast e)
theorem rdiv_eq {a b c d : Int} (hb : b ≠ 0) (hd : d ≠ 0) (h : a * d = c * b) : (a : Rat) / (b : Rat) = (c : Rat) / (d : Rat) := by
  have hb := rat_ne hb
  have hd := rat_ne hd
  have h : (a : Rat) * (d : Rat) = (c : Rat) * (b : Rat) := by exact_mod_cast h
  grind
theorem req_div {a b c d : Int} (hb : b ≠ 0) (hd : d ≠ 0) (h : (a : Rat) / (b : Rat) = (c : Rat) / (d : Rat)) : a * d = c * b := by
  have hb := rat_ne hb
  have hd := rat_ne hd
  have h : (a : Rat) * (d : Rat) = (c : Rat) * (b : Rat) := by grind
  exact_mod_cast h
theorem rMake_val {n d : Int} (hd : d ≠ 0) : ((rMake n d).2 = 0 ∧ rv (rMake n d).1 = (n : Rat) / (d : Rat)) ∨ (rMake n d).2 = 9 := by
  unfold rMake
  rw [if_neg hd]
  cases hl : low (decide (n < 0) != decide (d < 0)) n.natAbs d.natAbs with
  | none => exact .inr rfl
  | some r =>
    refine .inl ⟨rfl, ?_⟩
    unfold low at hl
    split at hl
    · cases hl
      have hg : 0 < Nat.gcd n.natAbs d.natAbs := Nat.gcd_pos_of_pos_right _ (by omega)
      have h1 := Nat.div_mul_cancel (Nat.gcd_dvd_left n.natAbs d.natAbs)
      have h2 := Nat.div_mul_cancel (Nat.gcd_dvd_right n.natAbs d.natAbs)
      generalize Nat.gcd n.natAbs d.natAbs = g at *
      generalize n.natAbs / g = p at *
      generalize d.natAbs / g = q at *
      unfold rv
      have hq : (q : Int) ≠ 0 := by
        intro e; have : q = 0 := by omega
        subst this; simp at h2; omega
      have h1' : (p : Int) * g = n.natAbs := by exact_mod_cast h1
      have h2' : (q : Int) * g = d.natAbs := by exact_mod_cast h2
      refine rdiv_eq hq hd ?_
      have hgz : (g : Int) ≠ 0 := by omega
      apply Int.eq_of_mul_eq_mul_right hgz
      by_cases a : n < 0 <;> by_cases b : d < 0 <;> simp [a, b]
      · have e1 : (p : Int) * g = -n := by omega
        have e2 : (q : Int) * g = -d := by omega
        grind
      · have e1 : (p : Int) * g = -n := by omega
        have e2 : (q : Int) * g = d := by omega
        grind
      · have e1 : (p : Int) * g = n := by omega
        have e2 : (q : Int) * g = -d := by omega
        grind
      · have e1 : (p : Int) * g = n := by omega
        have e2 : (q : Int) * g = d := by omega
        grind
    · cases hl
theorem rv_inj {r s : Rt} (hr : rOk r = true) (hs : rOk s = true) (h : rv r = rv s) : r = s := by
  simp only [rOk, Bool.and_eq_true, decide_eq_true_eq, beq_iff_eq] at hr hs
  obtain ⟨⟨r1, _, _, _⟩, r2⟩ := hr
  obtain ⟨⟨s1, _, _, _⟩, s2⟩ := hs
  obtain ⟨a, b⟩ := r
  obtain ⟨c, d⟩ := s
  simp only at *
  have e   := req_div (b := b) (d := d) (by omega) (by omega) h
  have e2 : a.natAbs * d.natAbs = c.natAbs * b.natAbs := by
    rw [← Int.natAbs_mul, ← Int.natAbs_mul, e]
  have hbd : b.natAbs ∣ d.natAbs := by
    have : b.natAbs ∣ a.natAbs * d.natAbs := by rw [e2]; exact Nat.dvd_mul_left _ _
    exact Nat.Coprime.dvd_of_dvd_mul_left (Nat.Coprime.symm r2) this
  have hdb : d.natAbs ∣ b.natAbs := by
    have : d.natAbs ∣ c.natAbs * b.natAbs := by rw [← e2]; exact Nat.dvd_mul_left _ _
    exact Nat.Coprime.dvd_of_dvd_mul_left (Nat.Coprime.symm s2) this
  have hb : b.natAbs = d.natAbs := Nat.dvd_antisymm hbd hdb
  obtain rfl : b = d := by omega
  have : a = c := Int.eq_of_mul_eq_mul_right (a := b) (by omega) e
  rw [this]

theorem rd_ne {r : Rt} (h : rOk r = true) : r.d ≠ 0 := by have := (rOk_in h).1; omega
/-- An operation that is done, with this value, or too big. -/
def Done (p : Rt × Int) (x : Rat) : Prop := (p.2 = 0 ∧ rOk p.1 = true ∧ rv p.1 = x) ∨ p.2 = 9
theorem done_make {n d : Int} {x : Rat} (hd : d ≠ 0) (h : (n : Rat) / (d : Rat) = x) : Done (rMake n d) x := by
  rcases rMake_val (n := n) hd with ⟨h1, h2⟩ | h1
  · exact .inl ⟨h1, rMake_ok h1, by rw [h2, h]⟩
  · exact .inr h1
theorem add_done {a b : Rt} (ha : rOk a = true) (hb : rOk b = true) : Done (rAdd a b) (rv a + rv b) := by
  unfold rAdd
  rw [rOp_yes ha hb]
  have h1 := rd_ne ha
  have h2 := rd_ne hb
  refine done_make (Int.mul_ne_zero h1 h2) ?_
  have h1 := rat_ne h1
  have h2 := rat_ne h2
  unfold rv
  simp only [Rat.intCast_add, Rat.intCast_mul]
  grind
theorem sub_done {a b : Rt} (ha : rOk a = true) (hb : rOk b = true) : Done (rSub a b) (rv a - rv b) := by
  unfold rSub
  rw [rOp_yes ha hb]
  have h1 := rd_ne ha
  have h2 := rd_ne hb
  refine done_make (Int.mul_ne_zero h1 h2) ?_
  have h1 := rat_ne h1
  have h2 := rat_ne h2
  unfold rv
  simp only [Rat.intCast_sub, Rat.intCast_mul]
  grind
theorem mul_done {a b : Rt} (ha : rOk a = true) (hb : rOk b = true) : Done (rMul a b) (rv a * rv b) := by
  unfold rMul
  rw [rOp_yes ha hb]
  have h1 := rd_ne ha
  have h2 := rd_ne hb
  refine done_make (Int.mul_ne_zero h1 h2) ?_
  have h1 := rat_ne h1
  have h2 := rat_ne h2
  unfold rv
  simp only [Rat.intCast_mul]
  grind
theorem rv_zero {b : Rt} (hb : rOk b = true) : rv b = 0 ↔ b.n = 0 := by
  have h2 := rat_ne (rd_ne hb)
  unfold rv
  constructor
  · intro h
    have h3 : (b.n : Rat) = 0 := by grind
    exact_mod_cast h3
  · intro h
    rw [h]; grind
theorem div_done {a b : Rt} (ha : rOk a = true) (hb : rOk b = true) (h0 : rv b ≠ 0) : Done (rDiv a b) (rv a / rv b) := by
  unfold rDiv
  rw [rOp_yes ha hb]
  have h1 := rd_ne ha
  have h2 := rd_ne hb
  have h3 : b.n ≠ 0 := fun e => h0 ((rv_zero hb).2 e)
  refine done_make (Int.mul_ne_zero h1 h3) ?_
  have h1 := rat_ne h1
  have h2 := rat_ne h2
  have h3 := rat_ne h3
  unfold rv
  simp only [Rat.intCast_mul]
  grind
theorem div_zero {a b : Rt} (ha : rOk a = true) (hb : rOk b = true) (h0 : rv b = 0) : (rDiv a b).2 = 10 := by
  unfold rDiv
  rw [rOp_yes ha hb, (rv_zero hb).1 h0]
  simp [rMake]
theorem rv_one (n : Int) : rv ⟨n, 1⟩ = (n : Rat) := by
  show (n : Rat) / ((1 : Int) : Rat) = n
  have : ((1 : Int) : Rat) = 1 := rfl
  rw [this]; grind
theorem pow_done {a : Rt} (ha : rOk a = true) : ∀ (n : Nat) (r : Rt), rOk r = true → Done (powX a n r) (rv r * rv a ^ n)
  | 0, r, hr => .inl ⟨rfl, hr, by simp [powX, Rat.pow_zero]⟩
  | n + 1, r, hr => by
    simp only [powX]
    rcases mul_done hr ha with ⟨h1, h2, h3⟩ | h1
    · rw [if_pos h1]
      have := pow_done ha n _ h2
      rw [h3] at this
      rw [Rat.pow_succ]
      have e : rv r * rv a * rv a ^ n = rv r * (rv a ^ n * rv a) := by grind
      rw [← e]; exact this
    · rw [if_neg (by omega)]; exact .inr h1
/-! ### Values -/
def qop1 (k n : Int) : Option Rat → Option Rat
  | none => none
  | some a => if k = 7 then some (-a) else if k = 8 then some (a ^ n.toNat) else none
def qop2 (k : Int) : Option Rat → Option Rat → Option Rat
  | some a, some b => if k = 3 then some (a + b) else if k = 4 then some (a - b) else if k = 5 then some (a * b) else if b = 0 then none else some (a / b)
  | _, _ => none
def qopL (k n : Int) : List (Option Rat) → Option Rat
  | [a] => qop1 k n a
  | [a, b] => qop2 k a b
  | _ => none
mutual
def qv (ρ : Bytes → Rat) : Ex → Option Rat
  | .mk k q s p l => if k = 1 then some (rv q) else if k = 2 then some (ρ s) else qopL k p (qvL ρ l)
def qvL (ρ : Bytes → Rat) : List Ex → List (Option Rat)
  | [] => []
  | x :: l => qv ρ x :: qvL ρ l
end
theorem qv_rat (ρ : Bytes → Rat) (r : Rt) : qv ρ (ratE r) = some (rv r) := by simp [ratE, qv]
theorem qv_num (ρ : Bytes → Rat) (n : Int) : qv ρ (numE n) = some (n : Rat) := by simp [numE, qv, rv_one]
theorem qv_var (ρ : Bytes → Rat) (s : Bytes) : qv ρ (varE s) = some (ρ s) := by simp [varE, qv]
theorem qv_one (ρ : Bytes → Rat) {k n : Int} (a : Ex) (h : k ≠ 1 ∧ k ≠ 2) : qv ρ (opE k n [a]) = qop1 k n (qv ρ a) := by simp [opE, qv, qvL, qopL, h]
theorem qv_two (ρ : Bytes → Rat) {k : Int} (a b : Ex) (h : k ≠ 1 ∧ k ≠ 2) : qv ρ (opE k 0 [a, b]) = qop2 k (qv ρ a) (qv ρ b) := by simp [opE, qv, qvL, qopL, h]
theorem xc_rat (es : Env0) (r : Rt) : xcE es (ratE r) = (r, 0) := by simp [ratE, xcE]
theorem xc_var (es : Env0) (s : Bytes) : xcE es (varE s) = (mget .str s ⟨0, 0⟩ es, 0) := by simp [varE, xcE]
theorem xc_neg (es : Env0) (a : Ex) : xcE es (opE 7 0 [a]) = if (xcE es a).2 = 0 then rSub ⟨0, 1⟩ (xcE es a).1 else xcE es a := by simp [opE, xcE, xcL, xop]
theorem xc_pow (es : Env0) (n : Int) (a : Ex) : xcE es (opE 8 n [a]) = if (xcE es a).2 = 0 then powX (xcE es a).1 n.toNat ⟨1, 1⟩ else xcE es a := by simp [opE, xcE, xcL, xop]
theorem xc_two (es : Env0) (k : Int) (a b : Ex) (h1 : k ≠ 1) (h2 : k ≠ 2) : xcE es (opE k 0 [a, b]) = if (xcE es a).2 = 0 then (if (xcE es b).2 = 0 then xop k 0 (xcE es a).1 (xcE es b).1 else xcE es b) else xcE es a := by simp [opE, xcE, xcL, h1, h2]
/-- All variables of an expression have values, which are valid. -/
def VarsOk (es : Env0) (e : Ex) : Prop := ∀ y ∈ preE e, y.k = 2 → rOk (mget .str y.s ⟨0, 0⟩ es) = true
theorem done_ok {p : Rt × Int} {x : Rat} (h : Done p x) (h0 : p.2 = 0) : rOk p.1 = true ∧ rv p.1 = x := by
  rcases h with ⟨_, h2, h3⟩ | h1
  · exact ⟨h2, h3⟩
  · omega
theorem done_err {p : Rt × Int} {x y : Rat} (h : Done p x) (h0 : p.2 ≠ 0) : Done p y := by
  rcases h with ⟨h1, _⟩ | h1
  · exact absurd h1 h0
  · exact .inr h1
abbrev rho (es : Env0) : Bytes → Rat := fun s => rv (mget .str s ⟨0, 0⟩ es)
theorem rv01 : rv ⟨0, 1⟩ = 0 := by rw [rv_one]; rfl
theorem ok01' : rOk ⟨0, 1⟩ = true := rOk_one (by omega)
/-- Where there is a value, exactly gives it, or something is too big; what exactly gives is a value. -/
theorem xc_val (es : Env0) {e : Ex} (h : VT e) (hr : allE (fun y => decide (y.k < 9)) e = true) (hv : VarsOk es e) :
    (∀ x, qv (rho es) e = some x → Done (xcE es e) x) ∧ ((xcE es e).2 = 0 → ∃ x, qv (rho es) e = some x) := by
  induction h with
  | num r hr0 =>
    rw [qv_rat, xc_rat]
    exact ⟨fun x hx => .inl ⟨rfl, hr0, Option.some.inj hx⟩, fun _ => ⟨_, rfl⟩⟩
  | var s hs =>
    rw [qv_var, xc_var]
    exact ⟨fun x hx => .inl ⟨rfl, hv (varE s) (by simp [varE, preE, preL]) rfl, Option.some.inj hx⟩, fun _ => ⟨_, rfl⟩⟩
  | un k a hk _ ih =>
    have hr : (decide (k < 9) && (allE (fun y => decide (y.k < 9)) a && true)) = true := hr
    simp only [Bool.and_eq_true, decide_eq_true_eq, Bool.and_true] at hr
    obtain rfl : k = 7 := by unfold K1 at hk; omega
    obtain ⟨i1, i2⟩ := ih hr.2 fun y hy => hv y (by simp only [opE, preE, preL, List.append_nil]; exact List.mem_cons_of_mem _ hy)
    rw [qv_one _ a (by omega), xc_neg]
    constructor
    · intro x hx
      cases ha : qv (rho es) a with
      | none => rw [ha] at hx; simp [qop1] at hx
      | some y =>
        rw [ha] at hx
        have hx : -y = x := by simpa [qop1] using hx
        have hd := i1 y ha
        split
        · rename_i h0
          obtain ⟨h1, h2⟩ := done_ok hd h0
          have := sub_done ok01' h1
          rw [rv01, h2] at this
          rw [← hx]
          have e : (0 : Rat) - y = -y := by grind
          rw [← e]; exact this
        · rename_i h0; exact done_err hd h0
    · intro h0
      split at h0
      · rename_i h1
        obtain ⟨y, hy⟩ := i2 h1
        exact ⟨-y, by rw [hy]; simp [qop1]⟩
      · rename_i h1; exact absurd h0 h1
  | pow n a h1 h2 _ ih =>
    have hr : (decide ((8 : Int) < 9) && (allE (fun y => decide (y.k < 9)) a && true)) = true := hr
    simp only [Bool.and_eq_true, decide_eq_true_eq, Bool.and_true] at hr
    obtain ⟨i1, i2⟩ := ih hr.2 fun y hy => hv y (by simp only [opE, preE, preL, List.append_nil]; exact List.mem_cons_of_mem _ hy)
    rw [qv_one _ a (by omega), xc_pow]
    constructor
    · intro x hx
      cases ha : qv (rho es) a with
      | none => rw [ha] at hx; simp [qop1] at hx
      | some y =>
        rw [ha] at hx
        have hx : y ^ n.toNat = x := by simpa [qop1] using hx
        have hd := i1 y ha
        split
        · rename_i h0
          obtain ⟨h1, h2⟩ := done_ok hd h0
          have := pow_done h1 n.toNat ⟨1, 1⟩ (rOk_one (by omega))
          rw [rv_one, h2] at this
          rw [← hx]
          have e : ((1 : Int) : Rat) * y ^ n.toNat = y ^ n.toNat := by grind
          rw [← e]; exact this
        · rename_i h0; exact done_err hd h0
    · intro h0
      split at h0
      · rename_i h1
        obtain ⟨y, hy⟩ := i2 h1
        exact ⟨y ^ n.toNat, by rw [hy]; simp [qop1]⟩
      · rename_i h1; exact absurd h0 h1
  | bin k a b hk _ _ ih1 ih2 =>
    have hr : (decide (k < 9) && (allE (fun y => decide (y.k < 9)) a && (allE (fun y => decide (y.k < 9)) b && true))) = true := hr
    simp only [Bool.and_eq_true, decide_eq_true_eq, Bool.and_true] at hr
    obtain ⟨i1, i2⟩ := ih1 hr.2.1 fun y hy => hv y (by simp only [opE, preE, preL, List.append_nil]; exact List.mem_cons_of_mem _ (List.mem_append_left _ hy))
    obtain ⟨j1, j2⟩ := ih2 hr.2.2 fun y hy => hv y (by simp only [opE, preE, preL, List.append_nil]; exact List.mem_cons_of_mem _ (List.mem_append_right _ hy))
    have hkk : k ≠ 1 ∧ k ≠ 2 := K2_ne hk
    rw [qv_two _ a b hkk, xc_two es k a b hkk.1 hkk.2]
    constructor
    · intro x hx
      cases ha : qv (rho es) a with
      | none => rw [ha] at hx; simp [qop2] at hx
      | some y =>
        cases hb : qv (rho es) b with
        | none => rw [ha, hb] at hx; simp [qop2] at hx
        | some z =>
          rw [ha, hb] at hx
          have hd := i1 y ha
          have he := j1 z hb
          split
          · rename_i h0
            obtain ⟨h1, h2⟩ := done_ok hd h0
            split
            · rename_i g0
              obtain ⟨g1, g2⟩ := done_ok he g0
              rcases hk with rfl | rfl | rfl | rfl
              · have hx : y + z = x := by simpa [qop2] using hx
                have := add_done h1 g1
                rw [h2, g2, hx] at this
                simpa [xop] using this
              · have hx : y - z = x := by simpa [qop2] using hx
                have := sub_done h1 g1
                rw [h2, g2, hx] at this
                simpa [xop] using this
              · have hx : y * z = x := by simpa [qop2] using hx
                have := mul_done h1 g1
                rw [h2, g2, hx] at this
                simpa [xop] using this
              · by_cases hz : z = 0
                · simp [qop2, hz] at hx
                · have hx : y / z = x := by simpa [qop2, hz] using hx
                  have := div_done h1 g1 (by rw [g2]; exact hz)
                  rw [h2, g2, hx] at this
                  simpa [xop] using this
            · rename_i g0; exact done_err he g0
          · rename_i h0; exact done_err hd h0
    · intro h0
      split at h0
      · rename_i h1
        split at h0
        · rename_i g1
          obtain ⟨y, hy⟩ := i2 h1
          obtain ⟨z, hz⟩ := j2 g1
          rw [hy, hz]
          rcases hk with rfl | rfl | rfl | rfl
          · exact ⟨y + z, by simp [qop2]⟩
          · exact ⟨y - z, by simp [qop2]⟩
          · exact ⟨y * z, by simp [qop2]⟩
          · by_cases hz0 : z = 0
            · have hd := done_ok (i1 y hy) h1
              have he := done_ok (j1 z hz) g1
              have h9 := div_zero hd.1 he.1 (by rw [he.2]; exact hz0)
              have h0' : (rDiv (xcE es a).1 (xcE es b).1).2 = 0 := by simpa [xop] using h0
              omega
            · exact ⟨y / z, by simp [qop2, hz0]⟩
        · rename_i g1; exact absurd h0 g1
      · rename_i h1; exact absurd h0 h1
/-! ### Simple forms are worth the same -/
theorem okN_some {p : Rt × Int} {r : Rt} (h : okN p = some r) : p.2 = 0 ∧ p.1 = r := by
  unfold okN at h
  split at h
  · rename_i h0; exact ⟨h0, Option.some.inj h⟩
  · cases h
theorem powN_val {a : Rt} (ha : rOk a = true) : ∀ (n : Nat) (r : Rt) (s : Rt), rOk r = true → powN a n r = some s → rv s = rv r * rv a ^ n
  | 0, r, s, hr, h => by
    have h : r = s := Option.some.inj h
    subst h
    rw [Rat.pow_zero]; grind
  | n + 1, r, s, hr, h => by
    simp only [powN] at h
    split at h
    · rename_i r' hr'
      obtain ⟨h1, h2⟩ := okN_some hr'
      obtain ⟨h3, h4⟩ := done_ok (mul_done hr ha) h1
      rw [h2] at h3 h4
      have := powN_val ha n r' s h3 h
      rw [this, h4, Rat.pow_succ]; grind
    · cases h
theorem VT_num {a : Ex} (h : VT a) (hk : a.k = 1) : ∃ r, rOk r = true ∧ a = ratE r := by
  cases h with
  | num r hr => exact ⟨r, hr, rfl⟩
  | var s hs => simp [varE, Ex.k] at hk
  | un k a h1 _ => simp [opE, Ex.k] at hk; unfold K1 at h1; omega
  | pow n a _ _ _ => simp [opE, Ex.k] at hk
  | bin k a b h1 _ _ => simp [opE, Ex.k] at hk; unfold K2 at h1; omega
theorem isB_val {ρ : Bytes → Rat} {a : Ex} {n : Int} (h : isB a n = true) {y : Rat} (ha : VT a) (hy : qv ρ a = some y) : y = (n : Rat) := by
  simp only [isB, Bool.and_eq_true, beq_iff_eq] at h
  obtain ⟨r, _, rfl⟩ := VT_num ha h.1
  rw [qv_rat] at hy
  obtain ⟨n', d'⟩ := r
  have h1 : n' = n := h.2.1
  have h2 : d' = 1 := h.2.2
  subst h1; subst h2
  rw [← Option.some.inj hy, rv_one]
theorem sim1_val {ρ : Bytes → Rat} {k n : Int} {a : Ex} (hk : k = 7 ∨ k = 8) (hn : 0 ≤ n) (ha : VT a) {x : Rat} (h : qop1 k n (qv ρ a) = some x) : qv ρ (op1 k n a) = some x := by
  cases hy : qv ρ a with
  | none => rw [hy] at h; simp [qop1] at h
  | some y =>
    rw [hy] at h
    unfold op1
    cases hf : foldN k n [a] with
    | some r =>
      simp only
      rw [qv_rat]
      unfold foldN at hf
      split at hf
      · rename_i hall
        have hka : a.k = 1 := by simpa using hall
        obtain ⟨s, hs, rfl⟩ := VT_num ha hka
        rw [qv_rat] at hy
        have hy : rv s = y := Option.some.inj hy
        have hq : q0 [ratE s] = s := rfl
        rw [hq] at hf
        rcases hk with rfl | rfl
        · have hx : -y = x := by simpa [qop1] using h
          have hf : okN (rSub ⟨0, 1⟩ s) = some r := by simpa using hf
          obtain ⟨h1, h2⟩ := okN_some hf
          obtain ⟨_, h4⟩ := done_ok (sub_done ok01' hs) h1
          rw [h2, rv01] at h4
          rw [h4, ← hx, ← hy]; congr 1; grind
        · have hx : y ^ n.toNat = x := by simpa [qop1] using h
          have hf : powN s n.toNat ⟨1, 1⟩ = some r := by simpa using hf
          have := powN_val hs n.toNat ⟨1, 1⟩ r (rOk_one (by omega)) hf
          rw [rv_one, hy, hx] at this
          rw [this]; congr 1; grind
      · cases hf
    | none =>
      simp only
      have hop : qv ρ (opE k n [a]) = some x := by rw [qv_one ρ a (by omega), hy]; exact h
      unfold sim1
      rcases hk with rfl | rfl
      · rw [if_pos rfl]
        split
        · rename_i h7
          cases ha with
          | num r hr => simp [ratE, Ex.k] at h7
          | var s hs => simp [varE, Ex.k] at h7
          | pow n a _ _ _ => simp [opE, Ex.k] at h7
          | bin k a b h1 _ _ => simp [opE, Ex.k] at h7; unfold K2 at h1; omega
          | un k z h1 hz =>
            have h7 : k = 7 := by simpa [opE, Ex.k] using h7
            subst h7
            show qv ρ z = some x
            rw [qv_one ρ z (by omega)] at hy
            cases hz' : qv ρ z with
            | none => rw [hz'] at hy; simp [qop1] at hy
            | some u =>
              rw [hz'] at hy
              have hy : -u = y := by simpa [qop1] using hy
              have hx : -y = x := by simpa [qop1] using h
              rw [← hx, ← hy]; congr 1; grind
        · exact hop
      · rw [if_neg (by omega), if_pos rfl]
        have hx : y ^ n.toNat = x := by simpa [qop1] using h
        split
        · rename_i h0
          subst h0
          rw [qv_num, ← hx]
          simp only [Int.toNat_zero, Rat.pow_zero]; rfl
        · split
          · rename_i h1
            subst h1
            rw [hy, ← hx]
            have : y ^ (1 : Int).toNat = y := by show y ^ 1 = y; grind
            rw [this]
          · exact hop
theorem sim2_val {ρ : Bytes → Rat} {k : Int} {a b : Ex} (hk : K2 k) (ha : VT a) (hb : VT b) {x : Rat} (h : qop2 k (qv ρ a) (qv ρ b) = some x) : qv ρ (op2 k a b) = some x := by
  cases hy : qv ρ a with
  | none => rw [hy] at h; simp [qop2] at h
  | some y =>
    cases hz : qv ρ b with
    | none => rw [hy, hz] at h; simp [qop2] at h
    | some z =>
      rw [hy, hz] at h
      unfold op2
      cases hf : foldN k 0 [a, b] with
      | some r =>
        simp only
        rw [qv_rat]
        unfold foldN at hf
        split at hf
        · rename_i hall
          have hka : a.k = 1 ∧ b.k = 1 := by simpa using hall
          obtain ⟨s, hs, rfl⟩ := VT_num ha hka.1
          obtain ⟨t, ht, rfl⟩ := VT_num hb hka.2
          rw [qv_rat] at hy hz
          have hy : rv s = y := Option.some.inj hy
          have hz : rv t = z := Option.some.inj hz
          have hq : q0 [ratE s, ratE t] = s := rfl
          have hq1 : q1 [ratE s, ratE t] = t := rfl
          rw [hq, hq1] at hf
          rcases hk with rfl | rfl | rfl | rfl
          · have hx : y + z = x := by simpa [qop2] using h
            have hf : okN (rAdd s t) = some r := by simpa using hf
            obtain ⟨h1, h2⟩ := okN_some hf
            obtain ⟨_, h4⟩ := done_ok (add_done hs ht) h1
            rw [h2] at h4; rw [h4, ← hx, hy, hz]
          · have hx : y - z = x := by simpa [qop2] using h
            have hf : okN (rSub s t) = some r := by simpa using hf
            obtain ⟨h1, h2⟩ := okN_some hf
            obtain ⟨_, h4⟩ := done_ok (sub_done hs ht) h1
            rw [h2] at h4; rw [h4, ← hx, hy, hz]
          · have hx : y * z = x := by simpa [qop2] using h
            have hf : okN (rMul s t) = some r := by simpa using hf
            obtain ⟨h1, h2⟩ := okN_some hf
            obtain ⟨_, h4⟩ := done_ok (mul_done hs ht) h1
            rw [h2] at h4; rw [h4, ← hx, hy, hz]
          · by_cases hz0 : z = 0
            · simp [qop2, hz0] at h
            · have hx : y / z = x := by simpa [qop2, hz0] using h
              have hf : okN (rDiv s t) = some r := by simpa using hf
              obtain ⟨h1, h2⟩ := okN_some hf
              obtain ⟨_, h4⟩ := done_ok (div_done hs ht (by rw [hz]; exact hz0)) h1
              rw [h2] at h4; rw [h4, ← hx, hy, hz]
        · cases hf
      | none =>
        simp only
        have hop : qv ρ (opE k 0 [a, b]) = some x := by rw [qv_two ρ a b (K2_ne hk), hy, hz]; exact h
        have i0 : ∀ {u : Ex} {n : Int} {q : Rat}, VT u → qv ρ u = some q → isB u n = true → q = (n : Rat) := fun hu hq hi => isB_val hi hu hq
        have e0 : ((0 : Int) : Rat) = 0 := rfl
        have e1 : ((1 : Int) : Rat) = 1 := rfl
        unfold sim2
        rcases hk with rfl | rfl | rfl | rfl
        · rw [if_pos rfl]
          have hx : y + z = x := by simpa [qop2] using h
          split
          · rename_i h1; have := i0 ha hy h1; rw [hz, ← hx, this, e0]; congr 1; grind
          · split
            · rename_i h1; have := i0 hb hz h1; rw [hy, ← hx, this, e0]; congr 1; grind
            · exact hop
        · rw [if_neg (by omega), if_pos rfl]
          have hx : y - z = x := by simpa [qop2] using h
          split
          · rename_i h1; have := i0 hb hz h1; rw [hy, ← hx, this, e0]; congr 1; grind
          · split
            · rename_i h1
              have h2 := i0 ha hy h1
              have hneg : negS b = op1 7 0 b := by
                unfold negS op1
                cases foldN 7 0 [b] with
                | some r => rfl
                | none => simp only [sim1, if_true]
              rw [hneg]
              refine sim1_val (.inl rfl) (by omega) hb ?_
              rw [hz, ← hx, h2, e0]
              show some (-z) = some (0 - z)
              congr 1; grind
            · exact hop
        · rw [if_neg (by omega), if_neg (by omega), if_pos rfl]
          have hx : y * z = x := by simpa [qop2] using h
          split
          · rename_i h1
            rw [qv_num, ← hx, e0]
            rcases Bool.or_eq_true _ _ ▸ h1 with h2 | h2
            · rw [i0 ha hy h2, e0]; congr 1; grind
            · rw [i0 hb hz h2, e0]; congr 1; grind
          · split
            · rename_i h1; have := i0 ha hy h1; rw [hz, ← hx, this, e1]; congr 1; grind
            · split
              · rename_i h1; have := i0 hb hz h1; rw [hy, ← hx, this, e1]; congr 1; grind
              · exact hop
        · rw [if_neg (by omega), if_neg (by omega), if_neg (by omega)]
          by_cases hz0 : z = 0
          · simp [qop2, hz0] at h
          · have hx : y / z = x := by simpa [qop2, hz0] using h
            split
            · rename_i h1
              have h1 : isB a 0 = true := by simp at h1; exact h1.1
              rw [qv_num, ← hx, i0 ha hy h1, e0]; congr 1; grind
            · split
              · rename_i h1; have := i0 hb hz h1; rw [hy, ← hx, this, e1]; congr 1; grind
              · exact hop
theorem sim_val {ρ : Bytes → Rat} {e : Ex} (h : VT e) : ∀ x, qv ρ e = some x → qv ρ (simE e) = some x := by
  induction h with
  | num r _ => rw [sim_rat]; exact fun _ h => h
  | var s _ => rw [sim_var]; exact fun _ h => h
  | un k a hk ha ih =>
    intro x hx
    rw [sim_one a (K1_ne hk)]
    rw [qv_one ρ a (K1_ne hk)] at hx
    cases hy : qv ρ a with
    | none => rw [hy] at hx; simp [qop1] at hx
    | some y =>
      by_cases h7 : k = 7
      · rw [hy] at hx
        exact sim1_val (.inl h7) (by omega) (VT_sim ha) (by rw [ih y hy]; exact hx)
      · rw [hy] at hx
        have h8 : k ≠ 8 := by unfold K1 at hk; omega
        simp [qop1, h7, h8] at hx
  | pow n a h1 h2 ha ih =>
    intro x hx
    rw [sim_one a (by omega)]
    rw [qv_one ρ a (by omega)] at hx
    cases hy : qv ρ a with
    | none => rw [hy] at hx; simp [qop1] at hx
    | some y =>
      rw [hy] at hx
      exact sim1_val (.inr rfl) h1 (VT_sim ha) (by rw [ih y hy]; exact hx)
  | bin k a b hk ha hb ih1 ih2 =>
    intro x hx
    rw [sim_two a b (K2_ne hk)]
    rw [qv_two ρ a b (K2_ne hk)] at hx
    cases hy : qv ρ a with
    | none => rw [hy] at hx; simp [qop2] at hx
    | some y =>
      cases hz : qv ρ b with
      | none => rw [hy, hz] at hx; simp [qop2] at hx
      | some z =>
        rw [hy, hz] at hx
        exact sim2_val hk (VT_sim ha) (VT_sim hb) (by rw [ih1 y hy, ih2 z hz]; exact hx)
/-! ### Nodes of simple forms: no functions and no variables that were not there -/
/-- What holds of all variables and of all kinds. -/
inductive NV (p : Bytes → Prop) : Ex → Prop
  | num (r : Rt) : NV p (ratE r)
  | var (s : Bytes) : p s → NV p (varE s)
  | one (k n : Int) (a : Ex) : 3 ≤ k → k < 9 → NV p a → NV p (opE k n [a])
  | two (k : Int) (a b : Ex) : 3 ≤ k → k < 9 → NV p a → NV p b → NV p (opE k 0 [a, b])
theorem NV_child {p : Bytes → Prop} {x : Ex} (h : NV p (opE 7 0 [x])) : NV p x := by
  generalize he : opE 7 0 [x] = e at h
  cases h with
  | num r => simp [opE, ratE] at he
  | var s _ => simp [opE, varE] at he
  | one k n a _ _ ha => obtain ⟨_, _, h3⟩ := opE_inj he; simp at h3; rw [h3]; exact ha
  | two k a b _ _ _ _ => obtain ⟨_, _, h3⟩ := opE_inj he; simp at h3
theorem NV_op1 {p : Bytes → Prop} {k n : Int} {a : Ex} (h3 : 3 ≤ k) (h9 : k < 9) (hv : VT a) (ha : NV p a) : NV p (op1 k n a) := by
  rcases op1_cases k n a hv with ⟨r, _, e⟩ | e | ⟨_, _, e⟩ | ⟨x, _, _, ha', e⟩ <;> rw [e]
  · exact .num r
  · exact .one k n a h3 h9 ha
  · exact ha
  · rw [ha'] at ha; exact NV_child ha
theorem NV_op2 {p : Bytes → Prop} {k : Int} {a b : Ex} (h3 : 3 ≤ k) (h9 : k < 9) (hv : VT b) (ha : NV p a) (hb : NV p b) : NV p (op2 k a b) := by
  rcases op2_cases k a b with ⟨r, _, e⟩ | e | e | e | ⟨_, e⟩ <;> rw [e]
  · exact .num r
  · exact .two k a b h3 h9 ha hb
  · exact ha
  · exact hb
  · exact NV_op1 (by omega) (by omega) hv hb
theorem NV_sim {p : Bytes → Prop} {e : Ex} (h : VT e) (hn : NV p e) : NV p (simE e) := by
  induction h with
  | num r _ => rw [sim_rat]; exact hn
  | var s _ => rw [sim_var]; exact hn
  | un k a hk ha ih =>
    rw [sim_one a (K1_ne hk)]
    generalize he : opE k 0 [a] = e at hn
    cases hn with
    | num r => simp [opE, ratE] at he
    | var s _ => simp [opE, varE] at he
    | one k' n a' h3 h9 ha' => obtain ⟨e1, _, e3⟩ := opE_inj he; simp at e3; subst e3; exact NV_op1 (by omega) (by omega) (VT_sim ha) (ih ha')
    | two k' a' b' _ _ _ _ => obtain ⟨_, _, e3⟩ := opE_inj he; simp at e3
  | pow n a h1 h2 ha ih =>
    rw [sim_one a (by omega)]
    generalize he : opE 8 n [a] = e at hn
    cases hn with
    | num r => simp [opE, ratE] at he
    | var s _ => simp [opE, varE] at he
    | one k' n' a' h3 h9 ha' => obtain ⟨e1, _, e3⟩ := opE_inj he; simp at e3; subst e3; exact NV_op1 (by omega) (by omega) (VT_sim ha) (ih ha')
    | two k' a' b' _ _ _ _ => obtain ⟨_, _, e3⟩ := opE_inj he; simp at e3
  | bin k a b hk ha hb ih1 ih2 =>
    rw [sim_two a b (K2_ne hk)]
    generalize he : opE k 0 [a, b] = e at hn
    cases hn with
    | num r => simp [opE, ratE] at he
    | var s _ => simp [opE, varE] at he
    | one k' n' a' _ _ _ => obtain ⟨_, _, e3⟩ := opE_inj he; simp at e3
    | two k' a' b' h3 h9 ha' hb' =>
      obtain ⟨e1, _, e3⟩ := opE_inj he
      simp at e3
      obtain ⟨rfl, rfl⟩ := e3
      exact NV_op2 (by omega) (by omega) (VT_sim hb) (ih1 ha') (ih2 hb')
theorem NV_of {p : Bytes → Prop} {e : Ex} (h : VT e) (hr : allE (fun y => decide (y.k < 9)) e = true) (hp : ∀ y ∈ preE e, y.k = 2 → p y.s) : NV p e := by
  induction h with
  | num r _ => exact .num r
  | var s _ => exact .var s (hp (varE s) (by simp [varE, preE, preL]) rfl)
  | un k a hk _ ih =>
    have hr : (decide (k < 9) && (allE (fun y => decide (y.k < 9)) a && true)) = true := hr
    simp only [Bool.and_eq_true, decide_eq_true_eq, Bool.and_true] at hr
    exact .one k 0 a (by unfold K1 at hk; omega) hr.1 (ih hr.2 fun y hy => hp y (by simp only [opE, preE, preL, List.append_nil]; exact List.mem_cons_of_mem _ hy))
  | pow n a h1 h2 _ ih =>
    have hr : (decide ((8 : Int) < 9) && (allE (fun y => decide (y.k < 9)) a && true)) = true := hr
    simp only [Bool.and_eq_true, decide_eq_true_eq, Bool.and_true] at hr
    exact .one 8 n a (by omega) (by omega) (ih hr.2 fun y hy => hp y (by simp only [opE, preE, preL, List.append_nil]; exact List.mem_cons_of_mem _ hy))
  | bin k a b hk _ _ ih1 ih2 =>
    have hr : (decide (k < 9) && (allE (fun y => decide (y.k < 9)) a && (allE (fun y => decide (y.k < 9)) b && true))) = true := hr
    simp only [Bool.and_eq_true, decide_eq_true_eq, Bool.and_true] at hr
    exact .two k a b (by unfold K2 at hk; omega) hr.1 (ih1 hr.2.1 fun y hy => hp y (by simp only [opE, preE, preL, List.append_nil]; exact List.mem_cons_of_mem _ (List.mem_append_left _ hy))) (ih2 hr.2.2 fun y hy => hp y (by simp only [opE, preE, preL, List.append_nil]; exact List.mem_cons_of_mem _ (List.mem_append_right _ hy)))
theorem NV_all {p : Bytes → Prop} {e : Ex} (h : NV p e) : allE (fun y => decide (y.k < 9)) e = true ∧ ∀ y ∈ preE e, y.k = 2 → p y.s := by
  induction h with
  | num r => exact ⟨rfl, fun y hy h2 => by simp [ratE, preE, preL] at hy; subst hy; simp [Ex.k] at h2⟩
  | var s hs => exact ⟨rfl, fun y hy h2 => by simp [varE, preE, preL] at hy; subst hy; exact hs⟩
  | one k n a h3 h9 _ ih =>
    refine ⟨?_, fun y hy h2 => ?_⟩
    · show (decide (k < 9) && (allE (fun y => decide (y.k < 9)) a && true)) = true
      simp [h9, ih.1]
    · simp only [opE, preE, preL, List.append_nil] at hy
      rcases List.mem_cons.1 hy with rfl | hy
      · have : k = 2 := h2
        omega
      · exact ih.2 y hy h2
  | two k a b h3 h9 _ _ ih1 ih2 =>
    refine ⟨?_, fun y hy h2 => ?_⟩
    · show (decide (k < 9) && (allE (fun y => decide (y.k < 9)) a && (allE (fun y => decide (y.k < 9)) b && true))) = true
      simp [h9, ih1.1, ih2.1]
    · simp only [opE, preE, preL, List.append_nil] at hy
      rcases List.mem_cons.1 hy with rfl | hy
      · have : k = 2 := h2
        omega
      · rcases List.mem_append.1 hy with hy | hy
        · exact ih1.2 y hy h2
        · exact ih2.2 y hy h2
end Go.Proofs.Ytmcdnbmamoggoaa

/-
  Simple forms keep exact values.
-/
namespace Go.Proofs.Ytmcdnbmamoggoaa
open Go Go.Sx
theorem mem_namV {l : List Ex} {s : Bytes} : s ∈ namV l ↔ ∃ y ∈ l, y.k = 2 ∧ y.s = s := by
  induction l with
  | nil => simp [namV]
  | cons y l ih =>
    simp only [namV]
    split
    · rename_i h
      simp only [List.mem_cons, ih]
      constructor
      · rintro (h1 | ⟨z, h1, h2⟩)
        · exact ⟨y, .inl rfl, h, h1.symm⟩
        · exact ⟨z, .inr h1, h2⟩
      · rintro ⟨z, rfl | h1, h2, h3⟩
        · exact .inl h3.symm
        · exact .inr ⟨z, h1, h2, h3⟩
    · rename_i h
      simp only [List.mem_cons, ih]
      constructor
      · rintro ⟨z, h1, h2⟩; exact ⟨z, .inr h1, h2⟩
      · rintro ⟨z, rfl | h1, h2, h3⟩
        · exact absurd h2 h
        · exact ⟨z, h1, h2, h3⟩
theorem mem_nmE {e : Ex} (h : okT e = true) {s : Bytes} : s ∈ nmE e ↔ ∃ y ∈ preE e, y.k = 2 ∧ y.s = s := by
  unfold nmE
  rw [mem_compact]
  unfold srtS
  rw [List.mem_mergeSort, mem_namV]
  simp [visE, h]
theorem nm_all {e : Ex} (h : okT e = true) (es : Env0) : (nmE e).all (hasN es) = true ↔ ∀ y ∈ preE e, y.k = 2 → hasN es y.s = true := by
  rw [List.all_eq_true]
  constructor
  · intro h1 y hy h2; exact h1 y.s ((mem_nmE h).2 ⟨y, hy, h2, rfl⟩)
  · intro h1 s hs
    obtain ⟨y, hy, h2, rfl⟩ := (mem_nmE h).1 hs
    exact h1 y hy h2
def EnvA (es : Env0) : Prop := ∀ p ∈ es, rOk p.2 = true
theorem mem_mput {n : Bytes} {r : Rt} : ∀ {es : Env0} {p : Bytes × Rt}, p ∈ mput .str n r es → p.2 = r ∨ p ∈ es
  | [], p, h => by
    simp only [mput, List.mem_singleton] at h
    exact .inl (by rw [h])
  | (y, v) :: l, p, h => by
    simp only [mput] at h
    cases hk : keyB .str n y with
    | true =>
      simp only [hk, cond_true] at h
      rcases List.mem_cons.1 h with h1 | h1
      · exact .inl (by rw [h1])
      · exact .inr (List.mem_cons_of_mem _ h1)
    | false =>
      simp only [hk, cond_false] at h
      rcases List.mem_cons.1 h with h1 | h1
      · exact .inr (by rw [h1]; exact List.mem_cons_self)
      · exact (mem_mput h1).imp id (List.mem_cons_of_mem _)
theorem mget_mem {s : Bytes} {z : Rt} : ∀ {es : Env0}, mhas .str s es = true → ∃ p ∈ es, mget .str s z es = p.2
  | [], h => by simp [mhas] at h
  | (y, v) :: l, h => by
    cases hk : keyB .str s y with
    | true => exact ⟨(y, v), List.mem_cons_self, by simp [mget, hk]⟩
    | false =>
      have h : mhas .str s l = true := by simpa [mhas, hk] using h
      obtain ⟨p, h1, h2⟩ := mget_mem h (z := z)
      exact ⟨p, List.mem_cons_of_mem _ h1, by simpa [mget, hk] using h2⟩
theorem envA_L : ∀ {ns : List Bytes} {rs : List Rt} {es : Env0}, rs.all rOk = true → EnvA es → EnvA (envL ns rs es)
  | [], _, _, _, h => h
  | _ :: _, [], _, _, h => h
  | n :: ns, r :: rs, es, hr, h => by
    simp only [List.all_cons, Bool.and_eq_true] at hr
    exact envA_L (es := mput .str n r es) hr.2 fun p hp => (mem_mput hp).elim (fun e => by rw [e]; exact hr.1) (h p)
theorem ex_keeps {e : Ex} {ns : List Bytes} {rs : List Rt} {r : Rt} (ho : okT e = true) (h : exF e ns rs = (r, 0)) : exF (simE e) ns rs = (r, 0) ∨ ∃ z, exF (simE e) ns rs = (z, 9) := by
  have hv := okT_VT ho
  have hos := ok_sim ho
  unfold exF at h
  split at h
  · rename_i hc
    obtain ⟨hc1, hc2, hc3, hc4, hc5⟩ := hc
    have hr := (ratB_ok hc3).2
    generalize hes : envL ns rs [] = es at *
    have hA : EnvA es := by rw [← hes]; exact envA_L hc4 (fun p hp => by simp at hp)
    have hvars := (nm_all ho es).1 hc5
    have hok : ∀ s, hasN es s = true → rOk (mget .str s ⟨0, 0⟩ es) = true := fun s hs => by
      obtain ⟨p, h1, h2⟩ := mget_mem (z := ⟨0, 0⟩) hs
      rw [h2]; exact hA p h1
    obtain ⟨sr, sv⟩ := NV_all (NV_sim hv (NV_of (p := fun s => hasN es s = true) hv hr hvars))
    have x1 := xc_val es hv hr fun y hy h2 => hok _ (hvars y hy h2)
    have x2 := xc_val es (VT_sim hv) sr fun y hy h2 => hok _ (sv y hy h2)
    have hcs : (ns.length = rs.length ∧ ns.length ≤ 200) ∧ (envL ns rs []).length = rs.length ∧ ratB (simE e) = true ∧ rs.all rOk = true ∧ (nmE (simE e)).all (hasN (envL ns rs [])) = true := by
      rw [hes]
      exact ⟨hc1, hc2, by unfold ratB; rw [hos, sr]; rfl, hc4, (nm_all hos es).2 sv⟩
    unfold exF
    rw [if_pos hcs, hes]
    split at h
    · rename_i h0
      obtain ⟨x, hx⟩ := x1.2 h0
      obtain ⟨d1, d2⟩ := done_ok (x1.1 x hx) h0
      have d3 := x2.1 x (sim_val hv x hx)
      rw [h] at d1 d2
      rcases d3 with ⟨e1, e2, e3⟩ | e1
      · left
        rw [if_pos e1]
        have : (xcE es (simE e)).1 = r := rv_inj e2 d1 (by rw [e3, d2])
        rw [← this, ← e1]
      · right
        rw [if_neg (by omega), e1]
        exact ⟨_, rfl⟩
    · rename_i h0
      simp only [Prod.mk.injEq] at h
      exact absurd h.2 h0
  · simp at h
end Go.Proofs.Ytmcdnbmamoggoaa

/-
  Values and derivatives: what computing with both gives is the value of the derivative.
-/
namespace Go.Proofs.Ytmcdnbmamoggoaa
open Go Go.Sx
abbrev D2 := Rat × Rat
def qd1 (k n : Int) : Option D2 → Option D2
  | none => none
  | some (x, d) => if k = 7 then some (-x, -d) else if k = 8 then some (x ^ n.toNat, (n : Rat) * x ^ (n - 1).toNat * d) else none
def qd2 (k : Int) : Option D2 → Option D2 → Option D2
  | some (x, d), some (y, f) => if k = 3 then some (x + y, d + f) else if k = 4 then some (x - y, d - f) else if k = 5 then some (x * y, d * y + x * f)
      else if y = 0 then none else some (x / y, (d * y - x * f) / (y * y))
  | _, _ => none
def qdO (k n : Int) : List (Option D2) → Option D2
  | [a] => qd1 k n a
  | [a, b] => qd2 k a b
  | _ => none
mutual
def qd (ρ : Bytes → Rat) (nm : Bytes) : Ex → Option D2
  | .mk k q s p l => if k = 1 then some (rv q, 0) else if k = 2 then some (ρ s, if s = nm then 1 else 0) else qdO k p (qdL ρ nm l)
def qdL (ρ : Bytes → Rat) (nm : Bytes) : List Ex → List (Option D2)
  | [] => []
  | x :: l => qd ρ nm x :: qdL ρ nm l
end
section
variable (ρ : Bytes → Rat) (nm : Bytes)
theorem qd_rat (r : Rt) : qd ρ nm (ratE r) = some (rv r, 0) := by simp [ratE, qd]
theorem qd_num (n : Int) : qd ρ nm (numE n) = some ((n : Rat), 0) := by simp [numE, qd, rv_one]
theorem qd_var (s : Bytes) : qd ρ nm (varE s) = some (ρ s, if s = nm then 1 else 0) := by simp [varE, qd]
theorem qd_one {k n : Int} (a : Ex) (h : k ≠ 1 ∧ k ≠ 2) : qd ρ nm (opE k n [a]) = qd1 k n (qd ρ nm a) := by simp [opE, qd, qdL, qdO, h]
theorem qd_two {k : Int} (a b : Ex) (h : k ≠ 1 ∧ k ≠ 2) : qd ρ nm (opE k 0 [a, b]) = qd2 k (qd ρ nm a) (qd ρ nm b) := by simp [opE, qd, qdL, qdO, h]
end
variable {ρ : Bytes → Rat} {nm : Bytes}
theorem qd1_fst {k n : Int} {u : Option D2} {v : Option Rat} {x d : Rat} (hu : ∀ y f, u = some (y, f) → v = some y) (h : qd1 k n u = some (x, d)) : qop1 k n v = some x := by
  obtain _ | ⟨y, f⟩ := u
  · simp [qd1] at h
  rw [hu y f rfl]
  simp only [qd1] at h
  simp only [qop1]
  split at h
  · rename_i h7; rw [if_pos h7]; simp at h; rw [h.1]
  · rename_i h7
    rw [if_neg h7]
    split at h
    · rename_i h8; rw [if_pos h8]; simp at h; rw [h.1]
    · cases h
theorem qd2_fst {k : Int} {u w : Option D2} {v z : Option Rat} {x d : Rat} (hu : ∀ y f, u = some (y, f) → v = some y) (hw : ∀ y f, w = some (y, f) → z = some y) (h : qd2 k u w = some (x, d)) : qop2 k v z = some x := by
  obtain _ | ⟨y, f⟩ := u
  · simp [qd2] at h
  obtain _ | ⟨y', f'⟩ := w
  · simp [qd2] at h
  rw [hu y f rfl, hw y' f' rfl]
  simp only [qd2] at h
  simp only [qop2]
  split at h
  · rename_i h3; rw [if_pos h3]; simp at h; rw [h.1]
  · rename_i h3
    rw [if_neg h3]
    split at h
    · rename_i h4; rw [if_pos h4]; simp at h; rw [h.1]
    · rename_i h4
      rw [if_neg h4]
      split at h
      · rename_i h5; rw [if_pos h5]; simp at h; rw [h.1]
      · rename_i h5
        rw [if_neg h5]
        split at h
        · cases h
        · rename_i h6; rw [if_neg h6]; simp at h; rw [h.1]
theorem qd_fst {e : Ex} (h : VT e) : ∀ x d, qd ρ nm e = some (x, d) → qv ρ e = some x := by
  induction h with
  | num r _ => intro x d h; rw [qd_rat] at h; rw [qv_rat]; simp at h; rw [h.1]
  | var s _ => intro x d h; rw [qd_var] at h; rw [qv_var]; simp at h; rw [h.1]
  | un k a hk _ ih => intro x d h; rw [qd_one _ _ a (K1_ne hk)] at h; rw [qv_one ρ a (K1_ne hk)]; exact qd1_fst ih h
  | pow n a _ _ _ ih => intro x d h; rw [qd_one _ _ a (by omega)] at h; rw [qv_one ρ a (by omega)]; exact qd1_fst ih h
  | bin k a b hk _ _ ih1 ih2 => intro x d h; rw [qd_two _ _ a b (K2_ne hk)] at h; rw [qv_two ρ a b (K2_ne hk)]; exact qd2_fst ih1 ih2 h
theorem isB_qd {a : Ex} {n : Int} (h : isB a n = true) (ha : VT a) : qd ρ nm a = some ((n : Rat), 0) := by
  have h' := h
  simp only [isB, Bool.and_eq_true, beq_iff_eq] at h
  obtain ⟨r, _, rfl⟩ := VT_num ha h.1
  rw [qd_rat, ← isB_val (ρ := ρ) h' ha (qv_rat ρ r)]
theorem fold_kinds {k n : Int} {l : List Ex} {r : Rt} (h : foldN k n l = some r) : ∀ a ∈ l, a.k = 1 := by
  unfold foldN at h
  split at h
  · rename_i hall
    intro a ha
    have := List.all_eq_true.1 hall a ha
    simpa using this
  · cases h
/-- The first parts are known from V10. -/
theorem qd_some_fst {e : Ex} {x d : Rat} (h : ∃ z, qd ρ nm e = some (z, d)) (hv : VT e) (h2 : qv ρ e = some x) : qd ρ nm e = some (x, d) := by
  obtain ⟨z, hz⟩ := h
  have := qd_fst hv _ _ hz
  rw [h2] at this
  rw [hz, Option.some.inj this]
theorem sim1_qd {k n : Int} {a : Ex} (hk : k = 7 ∨ k = 8) (hn : 0 ≤ n) (hva : VT a) {p : D2} (h : qd1 k n (qd ρ nm a) = some p) : qd ρ nm (op1 k n a) = some p := by
  obtain ⟨x, d⟩ := p
  have hfst : qv ρ (op1 k n a) = some x := sim1_val hk hn hva (qd1_fst (fun y f hy => qd_fst hva y f hy) h)
  cases hy : qd ρ nm a with
  | none => rw [hy] at h; simp [qd1] at h
  | some p =>
    obtain ⟨y, f⟩ := p
    rw [hy] at h
    unfold op1 at hfst ⊢
    cases hf : foldN k n [a] with
    | some r =>
      rw [hf] at hfst
      simp only at hfst ⊢
      rw [qv_rat] at hfst
      rw [qd_rat, Option.some.inj hfst]
      obtain ⟨s, _, rfl⟩ := VT_num hva (fold_kinds hf a (by simp))
      rw [qd_rat] at hy
      have hf0 : f = 0 := by simp at hy; exact hy.2.symm
      subst hf0
      rcases hk with rfl | rfl
      · simp [qd1] at h; rw [← h.2]
      · simp [qd1] at h; rw [← h.2]
    | none =>
      simp only
      have hop : qd ρ nm (opE k n [a]) = some (x, d) := by rw [qd_one _ _ a (by omega), hy]; exact h
      unfold sim1
      rcases hk with rfl | rfl
      · rw [if_pos rfl]
        split
        · rename_i h7
          cases hva with
          | num r hr => simp [ratE, Ex.k] at h7
          | var s hs => simp [varE, Ex.k] at h7
          | pow n a _ _ _ => simp [opE, Ex.k] at h7
          | bin k a b h1 _ _ => simp [opE, Ex.k] at h7; unfold K2 at h1; omega
          | un k z h1 hz =>
            have h7 : k = 7 := by simpa [opE, Ex.k] using h7
            subst h7
            show qd ρ nm z = some (x, d)
            rw [qd_one _ _ z (by omega)] at hy
            rcases hz' : qd ρ nm z with _ | ⟨u, g⟩
            · rw [hz'] at hy; simp [qd1] at hy
            · rw [hz'] at hy
              simp only [qd1, if_true, Option.some.injEq, Prod.mk.injEq] at hy h
              rw [← h.1, ← h.2, ← hy.1, ← hy.2]
              simp only [Option.some.injEq, Prod.mk.injEq]
              constructor <;> grind
        · exact hop
      · rw [if_neg (by omega), if_pos rfl]
        have h : y ^ n.toNat = x ∧ (n : Rat) * y ^ (n - 1).toNat * f = d := by simpa [qd1] using h
        split
        · rename_i h0
          subst h0
          rw [qd_num, ← h.1, ← h.2]
          simp only [Int.toNat_zero, Rat.pow_zero, Option.some.injEq, Prod.mk.injEq]
          refine ⟨rfl, ?_⟩
          have : ((0 : Int) : Rat) = 0 := rfl
          rw [this]; grind
        · split
          · rename_i h1
            subst h1
            rw [hy, ← h.1, ← h.2]
            have e1 : y ^ (1 : Int).toNat = y := by show y ^ 1 = y; grind
            have e2 : y ^ ((1 : Int) - 1).toNat = 1 := by show y ^ 0 = 1; grind
            have e3 : ((1 : Int) : Rat) = 1 := rfl
            rw [e1, e2, e3]
            simp only [Option.some.injEq, Prod.mk.injEq]
            constructor <;> grind
          · exact hop
theorem sim2_qd {k : Int} {a b : Ex} (hk : K2 k) (ha : VT a) (hb : VT b) {p : D2} (h : qd2 k (qd ρ nm a) (qd ρ nm b) = some p) : qd ρ nm (op2 k a b) = some p := by
  obtain ⟨x, d⟩ := p
  have hfst : qv ρ (op2 k a b) = some x := sim2_val hk ha hb (qd2_fst (fun y f hy => qd_fst ha y f hy) (fun y f hy => qd_fst hb y f hy) h)
  rcases hy : qd ρ nm a with _ | ⟨y, f⟩
  · rw [hy] at h; simp [qd2] at h
  rcases hz : qd ρ nm b with _ | ⟨z, g⟩
  · rw [hy, hz] at h; simp [qd2] at h
  rw [hy, hz] at h
  unfold op2 at hfst ⊢
  cases hf : foldN k 0 [a, b] with
  | some r =>
    rw [hf] at hfst
    simp only at hfst ⊢
    rw [qv_rat] at hfst
    rw [qd_rat, Option.some.inj hfst]
    obtain ⟨s, _, rfl⟩ := VT_num ha (fold_kinds hf a (by simp))
    obtain ⟨t, _, rfl⟩ := VT_num hb (fold_kinds hf b (by simp))
    rw [qd_rat] at hy hz
    have hf0 : f = 0 := by simp at hy; exact hy.2.symm
    have hg0 : g = 0 := by simp at hz; exact hz.2.symm
    subst hf0; subst hg0
    simp only [qd2] at h
    simp only [Option.some.injEq, Prod.mk.injEq, true_and]
    split at h
    · simp only [Option.some.injEq, Prod.mk.injEq] at h; rw [← h.2]; grind
    · split at h
      · simp only [Option.some.injEq, Prod.mk.injEq] at h; rw [← h.2]; grind
      · split at h
        · simp only [Option.some.injEq, Prod.mk.injEq] at h; rw [← h.2]; grind
        · split at h
          · cases h
          · simp only [Option.some.injEq, Prod.mk.injEq] at h; rw [← h.2]; grind
  | none =>
    simp only
    have hop : qd ρ nm (opE k 0 [a, b]) = some (x, d) := by rw [qd_two _ _ a b (K2_ne hk), hy, hz]; exact h
    have i0 : ∀ {u : Ex} {n : Int} {q q' : Rat}, VT u → qd ρ nm u = some (q, q') → isB u n = true → q = (n : Rat) ∧ q' = 0 := fun hu hq hi => by
      have := isB_qd (ρ := ρ) (nm := nm) hi hu
      rw [hq] at this; simpa using this
    have e0 : ((0 : Int) : Rat) = 0 := rfl
    have e1 : ((1 : Int) : Rat) = 1 := rfl
    unfold sim2
    rcases hk with rfl | rfl | rfl | rfl
    · rw [if_pos rfl]
      have hx : y + z = x ∧ f + g = d := by simpa [qd2] using h
      split
      · rename_i h1; obtain ⟨t1, t2⟩ := i0 ha hy h1; rw [hz, ← hx.1, ← hx.2, t1, t2, e0]; simp only [Option.some.injEq, Prod.mk.injEq]; constructor <;> grind
      · split
        · rename_i h1; obtain ⟨t1, t2⟩ := i0 hb hz h1; rw [hy, ← hx.1, ← hx.2, t1, t2, e0]; simp only [Option.some.injEq, Prod.mk.injEq]; constructor <;> grind
        · exact hop
    · rw [if_neg (by omega), if_pos rfl]
      have hx : y - z = x ∧ f - g = d := by simpa [qd2] using h
      split
      · rename_i h1; obtain ⟨t1, t2⟩ := i0 hb hz h1; rw [hy, ← hx.1, ← hx.2, t1, t2, e0]; simp only [Option.some.injEq, Prod.mk.injEq]; constructor <;> grind
      · split
        · rename_i h1
          obtain ⟨t1, t2⟩ := i0 ha hy h1
          rw [negS_eq]
          refine sim1_qd (.inl rfl) (by omega) hb ?_
          rw [hz, ← hx.1, ← hx.2, t1, t2, e0]
          show some (-z, -g) = some (0 - z, 0 - g)
          simp only [Option.some.injEq, Prod.mk.injEq]; constructor <;> grind
        · exact hop
    · rw [if_neg (by omega), if_neg (by omega), if_pos rfl]
      have hx : y * z = x ∧ f * z + y * g = d := by simpa [qd2] using h
      split
      · rename_i h1
        rw [qd_num, ← hx.1, ← hx.2, e0]
        simp only [Option.some.injEq, Prod.mk.injEq]
        rcases Bool.or_eq_true _ _ ▸ h1 with h2 | h2
        · obtain ⟨t1, t2⟩ := i0 ha hy h2; rw [t1, t2, e0]; constructor <;> grind
        · obtain ⟨t1, t2⟩ := i0 hb hz h2; rw [t1, t2, e0]; constructor <;> grind
      · split
        · rename_i h1; obtain ⟨t1, t2⟩ := i0 ha hy h1; rw [hz, ← hx.1, ← hx.2, t1, t2, e1]; simp only [Option.some.injEq, Prod.mk.injEq]; constructor <;> grind
        · split
          · rename_i h1; obtain ⟨t1, t2⟩ := i0 hb hz h1; rw [hy, ← hx.1, ← hx.2, t1, t2, e1]; simp only [Option.some.injEq, Prod.mk.injEq]; constructor <;> grind
          · exact hop
    · rw [if_neg (by omega), if_neg (by omega), if_neg (by omega)]
      by_cases hz0 : z = 0
      · simp [qd2, hz0] at h
      · have hx : y / z = x ∧ (f * z - y * g) / (z * z) = d := by simpa [qd2, hz0] using h
        split
        · rename_i h1
          have h1 : isB a 0 = true := by simp at h1; exact h1.1
          obtain ⟨t1, t2⟩ := i0 ha hy h1
          rw [qd_num, ← hx.1, ← hx.2, t1, t2, e0]; simp only [Option.some.injEq, Prod.mk.injEq]; constructor <;> grind
        · split
          · rename_i h1; obtain ⟨t1, t2⟩ := i0 hb hz h1; rw [hy, ← hx.1, ← hx.2, t1, t2, e1]; simp only [Option.some.injEq, Prod.mk.injEq]; constructor <;> grind
          · exact hop
theorem qd1_none {k n : Int} (hk : k ≠ 7 ∧ k ≠ 8) (u : Option D2) : qd1 k n u = none := by
  obtain _ | ⟨y, f⟩ := u
  · rfl
  · simp [qd1, hk]
theorem sim_qd {e : Ex} (h : VT e) : ∀ p, qd ρ nm e = some p → qd ρ nm (simE e) = some p := by
  induction h with
  | num r _ => rw [sim_rat]; exact fun _ h => h
  | var s _ => rw [sim_var]; exact fun _ h => h
  | un k a hk ha ih =>
    intro p hp
    rw [sim_one a (K1_ne hk)]
    rw [qd_one _ _ a (K1_ne hk)] at hp
    by_cases h7 : k = 7
    · cases hy : qd ρ nm a with
      | none => rw [hy] at hp; simp [qd1] at hp
      | some y => rw [hy] at hp; exact sim1_qd (.inl h7) (by omega) (VT_sim ha) (by rw [ih y hy]; exact hp)
    · rw [qd1_none ⟨h7, by unfold K1 at hk; omega⟩] at hp; cases hp
  | pow n a h1 h2 ha ih =>
    intro p hp
    rw [sim_one a (by omega)]
    rw [qd_one _ _ a (by omega)] at hp
    cases hy : qd ρ nm a with
    | none => rw [hy] at hp; simp [qd1] at hp
    | some y => rw [hy] at hp; exact sim1_qd (.inr rfl) h1 (VT_sim ha) (by rw [ih y hy]; exact hp)
  | bin k a b hk ha hb ih1 ih2 =>
    intro p hp
    rw [sim_two a b (K2_ne hk)]
    rw [qd_two _ _ a b (K2_ne hk)] at hp
    cases hy : qd ρ nm a with
    | none => rw [hy] at hp; simp [qd2] at hp
    | some y =>
      cases hz : qd ρ nm b with
      | none => rw [hy, hz] at hp; obtain ⟨y1, y2⟩ := y; simp [qd2] at hp
      | some z => rw [hy, hz] at hp; exact sim2_qd hk (VT_sim ha) (VT_sim hb) (by rw [ih1 y hy, ih2 z hz]; exact hp)
/-! ### The value of the derivative -/
theorem qq2 {k : Int} {a b : Ex} {x y z : Rat} (hk : K2 k) (ha : VT a) (hb : VT b) (h1 : qv ρ a = some x) (h2 : qv ρ b = some y) (h : qop2 k (some x) (some y) = some z) : qv ρ (op2 k a b) = some z :=
  sim2_val hk ha hb (by rw [h1, h2]; exact h)
theorem qq1 {k n : Int} {a : Ex} {x z : Rat} (hk : k = 7 ∨ k = 8) (hn : 0 ≤ n) (ha : VT a) (h1 : qv ρ a = some x) (h : qop1 k n (some x) = some z) : qv ρ (op1 k n a) = some z :=
  sim1_val hk hn ha (by rw [h1]; exact h)
theorem kk3 : K2 3 := by unfold K2; omega
theorem kk4 : K2 4 := by unfold K2; omega
theorem kk5 : K2 5 := by unfold K2; omega
theorem kk6 : K2 6 := by unfold K2; omega
theorem diff_qv {e : Ex} (h : VT e) : ∀ x d, qd ρ nm e = some (x, d) → qv ρ (diffE nm e) = some d := by
  induction h with
  | num r _ => intro x d h; rw [qd_rat] at h; rw [diff_rat, qv_num]; simp at h; rw [← h.2]; rfl
  | var s _ =>
    intro x d h
    rw [qd_var] at h; rw [diff_var]
    simp only [Option.some.injEq, Prod.mk.injEq] at h
    rw [← h.2]
    split
    · rw [qv_num]; rfl
    · rw [qv_num]; rfl
  | un k a hk ha ih =>
    intro x d h
    rw [qd_one _ _ a (K1_ne hk)] at h
    rw [diff_one nm a (K1_ne hk)]
    by_cases h7 : k = 7
    · subst h7
      rcases hy : qd ρ nm a with _ | ⟨y, f⟩
      · rw [hy] at h; simp [qd1] at h
      · rw [hy] at h
        have h : -y = x ∧ -f = d := by simpa [qd1] using h
        unfold dif1
        rw [if_pos rfl]
        exact qq1 (.inl rfl) (by omega) (VT_diff nm ha) (ih y f hy) (by rw [← h.2]; simp [qop1])
    · rw [qd1_none ⟨h7, by unfold K1 at hk; omega⟩] at h; cases h
  | pow n a h1 h2 ha ih =>
    intro x d h
    rw [qd_one _ _ a (by omega)] at h
    rw [diff_one nm a (by omega)]
    rcases hy : qd ρ nm a with _ | ⟨y, f⟩
    · rw [hy] at h; simp [qd1] at h
    rw [hy] at h
    have h : y ^ n.toNat = x ∧ (n : Rat) * y ^ (n - 1).toNat * f = d := by simpa [qd1] using h
    unfold dif1
    rw [if_neg (by omega), if_pos rfl]
    split
    · rename_i h0
      subst h0
      rw [qv_num, ← h.2]
      have : ((0 : Int) : Rat) = 0 := rfl
      rw [this]; congr 1; grind
    · have v1 : VT (op1 8 (n - 1) a) := VT_op1 (.inr ⟨rfl, by omega, by omega⟩) ha
      have v0 : VT (numE n) := VT_numE (by omega)
      have e1 : qv ρ (op1 8 (n - 1) a) = some (y ^ (n - 1).toNat) := qq1 (.inr rfl) (by omega) ha (qd_fst ha _ _ hy) (by simp [qop1])
      have e2 : qv ρ (op2 5 (numE n) (op1 8 (n - 1) a)) = some ((n : Rat) * y ^ (n - 1).toNat) := qq2 kk5 v0 v1 (qv_num ρ n) e1 (by simp [qop2])
      exact qq2 kk5 (VT_op2 kk5 v0 v1) (VT_diff nm ha) e2 (ih y f hy) (by rw [← h.2]; simp [qop2])
  | bin k a b hk ha hb ih1 ih2 =>
    intro x d h
    rw [qd_two _ _ a b (K2_ne hk)] at h
    rw [diff_two nm a b (K2_ne hk)]
    rcases hy : qd ρ nm a with _ | ⟨y, f⟩
    · rw [hy] at h; simp [qd2] at h
    rcases hz : qd ρ nm b with _ | ⟨z, g⟩
    · rw [hy, hz] at h; simp [qd2] at h
    rw [hy, hz] at h
    have j1 := ih1 y f hy
    have j2 := ih2 z g hz
    have i1 := qd_fst ha _ _ hy
    have i2 := qd_fst hb _ _ hz
    have va := VT_diff nm ha
    have vb := VT_diff nm hb
    unfold dif2
    rcases hk with rfl | rfl | rfl | rfl
    · have h : y + z = x ∧ f + g = d := by simpa [qd2] using h
      rw [if_neg (by omega), if_neg (by omega)]
      exact qq2 kk3 va vb j1 j2 (by rw [← h.2]; simp [qop2])
    · have h : y - z = x ∧ f - g = d := by simpa [qd2] using h
      rw [if_neg (by omega), if_neg (by omega)]
      exact qq2 kk4 va vb j1 j2 (by rw [← h.2]; simp [qop2])
    · have h : y * z = x ∧ f * z + y * g = d := by simpa [qd2] using h
      rw [if_pos rfl]
      exact qq2 kk3 (VT_op2 kk5 va hb) (VT_op2 kk5 ha vb) (qq2 kk5 va hb j1 i2 (z := f * z) (by simp [qop2])) (qq2 kk5 ha vb i1 j2 (z := y * g) (by simp [qop2])) (by rw [← h.2]; simp [qop2])
    · by_cases hz0 : z = 0
      · simp [qd2, hz0] at h
      have h : y / z = x ∧ (f * z - y * g) / (z * z) = d := by simpa [qd2, hz0] using h
      rw [if_neg (by omega), if_pos rfl]
      split
      · rename_i hb1
        obtain ⟨s, _, rfl⟩ := VT_num hb hb1
        rw [qd_rat] at hz
        have hg0 : g = 0 := by simp at hz; exact hz.2.symm
        subst hg0
        refine qq2 kk6 va hb j1 i2 ?_
        rw [← h.2]
        simp only [qop2, hz0, if_false]
        have e : f / z = (f * z - y * 0) / (z * z) := by grind
        simp [e]
      · have c1 := qq2 kk5 va hb j1 i2 (z := f * z) (by simp [qop2])
        have c2 := qq2 kk5 ha vb i1 j2 (z := y * g) (by simp [qop2])
        have c3 := qq2 kk4 (VT_op2 kk5 va hb) (VT_op2 kk5 ha vb) c1 c2 (z := f * z - y * g) (by simp [qop2])
        have c4 := qq1 (k := 8) (n := 2) (.inr rfl) (by omega) hb i2 (z := z ^ 2) (by simp [qop1])
        refine qq2 kk6 (VT_op2 kk4 (VT_op2 kk5 va hb) (VT_op2 kk5 ha vb)) (VT_op1 (.inr ⟨rfl, by omega, by omega⟩) hb) c3 c4 ?_
        rw [← h.2]
        have e0 : z ^ 2 ≠ 0 := by intro h2; apply hz0; grind
        have e : z ^ 2 = z * z := by grind
        rw [e] at e0
        simp [qop2, e, e0]
/-! ### The nodes of derivatives -/
theorem NV_diff {p : Bytes → Prop} {e : Ex} (h : VT e) (hn : NV p e) : NV p (diffE nm e) := by
  have n0 : ∀ n : Int, NV p (numE n) := fun n => NV.num ⟨n, 1⟩
  induction h with
  | num r _ => rw [diff_rat]; exact n0 0
  | var s _ => rw [diff_var]; split <;> exact n0 _
  | un k a hk ha ih =>
    rw [diff_one nm a (K1_ne hk)]
    generalize he : opE k 0 [a] = e at hn
    cases hn with
    | num r => simp [opE, ratE] at he
    | var s _ => simp [opE, varE] at he
    | one k' n a' h3 h9 ha' =>
      obtain ⟨e1, _, e3⟩ := opE_inj he; simp at e3; subst e3; subst e1
      have h7 : k = 7 := by unfold K1 at hk; omega
      unfold dif1
      rw [if_pos h7]
      exact NV_op1 (by omega) (by omega) (VT_diff nm ha) (ih ha')
    | two k' a' b' _ _ _ _ => obtain ⟨_, _, e3⟩ := opE_inj he; simp at e3
  | pow n a h1 h2 ha ih =>
    rw [diff_one nm a (by omega)]
    generalize he : opE 8 n [a] = e at hn
    cases hn with
    | num r => simp [opE, ratE] at he
    | var s _ => simp [opE, varE] at he
    | one k' n' a' h3 h9 ha' =>
      obtain ⟨e1, _, e3⟩ := opE_inj he; simp at e3; subst e3
      unfold dif1
      rw [if_neg (by omega), if_pos rfl]
      split
      · exact n0 0
      · exact NV_op2 (by omega) (by omega) (VT_diff nm ha) (NV_op2 (by omega) (by omega) (VT_op1 (.inr ⟨rfl, by omega, by omega⟩) ha) (n0 n) (NV_op1 (by omega) (by omega) ha ha')) (ih ha')
    | two k' a' b' _ _ _ _ => obtain ⟨_, _, e3⟩ := opE_inj he; simp at e3
  | bin k a b hk ha hb ih1 ih2 =>
    rw [diff_two nm a b (K2_ne hk)]
    generalize he : opE k 0 [a, b] = e at hn
    cases hn with
    | num r => simp [opE, ratE] at he
    | var s _ => simp [opE, varE] at he
    | one k' n' a' _ _ _ => obtain ⟨_, _, e3⟩ := opE_inj he; simp at e3
    | two k' a' b' h3 h9 ha' hb' =>
      obtain ⟨e1, _, e3⟩ := opE_inj he
      simp at e3
      obtain ⟨rfl, rfl⟩ := e3
      have j1 := ih1 ha'
      have j2 := ih2 hb'
      have va := VT_diff nm ha
      have vb := VT_diff nm hb
      have m1 := NV_op2 (k := 5) (by omega) (by omega) hb j1 hb'
      have m2 := NV_op2 (k := 5) (by omega) (by omega) vb ha' j2
      unfold dif2
      split
      · exact NV_op2 (by omega) (by omega) (VT_op2 kk5 ha vb) m1 m2
      · split
        · split
          · exact NV_op2 (by omega) (by omega) hb j1 hb'
          · exact NV_op2 (by omega) (by omega) (VT_op1 (.inr ⟨rfl, by omega, by omega⟩) hb) (NV_op2 (by omega) (by omega) (VT_op2 kk5 ha vb) m1 m2) (NV_op1 (by omega) (by omega) hb hb')
        · unfold K2 at hk
          exact NV_op2 (by omega) (by omega) vb j1 j2
end Go.Proofs.Ytmcdnbmamoggoaa

/-
  Values and derivatives: the reference's dual numbers are values and derivatives; the law.
-/
namespace Go.Proofs.Ytmcdnbmamoggoaa
open Go Go.Sx
/-! ### Environments of distinct names -/
def lookR : List Bytes → List Rt → Bytes → Option Rt
  | n :: ns, r :: rs, s => if s = n then some r else lookR ns rs s
  | _, _, _ => none
theorem key_sR (a b : Bytes) : keyB .str a b = decide (a = b) := by
  rw [Bool.eq_iff_iff, decide_eq_true_eq]
  exact beq_iff_eq (α := List UInt8)
theorem mget_putR (x y : Bytes) (r z : Rt) : ∀ es : Env0, mget .str x z (mput .str y r es) = if x = y then r else mget .str x z es
  | [] => by
    by_cases h : x = y
    · subst h; simp [mput, mget, key_sR]
    · simp [mput, mget, key_sR, h]
  | (w, v) :: l => by
    have ih := mget_putR x y r z l
    by_cases h : y = w
    · subst h
      by_cases h2 : x = y
      · subst h2; simp [mput, mget, key_sR]
      · simp [mput, mget, key_sR, h2]
    · by_cases h2 : x = w
      · subst h2
        have h' : ¬ x = y := fun e => h e.symm
        simp [mput, mget, key_sR, h, h']
      · simp [mput, mget, key_sR, h, h2]; simpa using ih
theorem mhas_putR (x y : Bytes) (r : Rt) : ∀ es : Env0, mhas .str x (mput .str y r es) = (decide (x = y) || mhas .str x es)
  | [] => by simp [mput, mhas, key_sR]
  | (w, v) :: l => by
    have ih := mhas_putR x y r l
    by_cases h : y = w
    · subst h
      by_cases h2 : x = y
      · subst h2; simp [mput, mhas, key_sR]
      · simp [mput, mhas, key_sR, h2]
    · by_cases h2 : x = w
      · subst h2; simp [mput, mhas, key_sR, h]
      · simp [mput, mhas, key_sR, h, h2]; simpa using ih
theorem mput_lenR (y : Bytes) (r : Rt) : ∀ es : Env0, mhas .str y es = false → (mput .str y r es).length = es.length + 1
  | [], _ => rfl
  | (w, v) :: l, h => by
    by_cases h2 : y = w
    · subst h2; simp [mhas, key_sR] at h
    · have h3 : mhas .str y l = false := by simpa [mhas, key_sR, h2] using h
      have ih := mput_lenR y r l h3
      simp [mput, key_sR, h2, ih]
theorem look_not {s : Bytes} : ∀ {ns : List Bytes} {rs : List Rt}, s ∉ ns → lookR ns rs s = none
  | [], _, _ => rfl
  | n :: ns, [], _ => rfl
  | n :: ns, r :: rs, h => by
    have h1 : ¬ s = n := fun e => h (by rw [e]; exact List.mem_cons_self)
    simp only [lookR, if_neg h1]
    exact look_not fun hm => h (List.mem_cons_of_mem _ hm)
theorem mget_L (s : Bytes) (z : Rt) : ∀ (ns : List Bytes) (rs : List Rt) (es : Env0), ns.Nodup → mget .str s z (envL ns rs es) = (lookR ns rs s).getD (mget .str s z es)
  | [], _, es, _ => rfl
  | n :: ns, [], es, _ => rfl
  | n :: ns, r :: rs, es, h => by
    rw [List.nodup_cons] at h
    simp only [envL, lookR]
    rw [mget_L s z ns rs _ h.2, mget_putR]
    by_cases h1 : s = n
    · subst h1; rw [look_not h.1]; simp
    · simp [h1]
theorem mhas_L (s : Bytes) : ∀ (ns : List Bytes) (rs : List Rt) (es : Env0), mhas .str s (envL ns rs es) = ((lookR ns rs s).isSome || mhas .str s es)
  | [], _, es => rfl
  | n :: ns, [], es => rfl
  | n :: ns, r :: rs, es => by
    simp only [envL, lookR]
    rw [mhas_L s ns rs _, mhas_putR]
    by_cases h1 : s = n
    · subst h1; simp
    · simp [h1]
theorem len_L : ∀ (ns : List Bytes) (rs : List Rt) (es : Env0), ns.Nodup → ns.length = rs.length → (∀ n ∈ ns, mhas .str n es = false) → (envL ns rs es).length = es.length + ns.length
  | [], _, es, _, _, _ => rfl
  | n :: ns, [], es, _, hl, _ => by simp at hl
  | n :: ns, r :: rs, es, h, hl, hh => by
    rw [List.nodup_cons] at h
    simp only [envL]
    have hl : ns.length = rs.length := by simpa using hl
    rw [len_L ns rs _ h.2 hl fun m hm => ?_, mput_lenR n r es (hh n List.mem_cons_self)]
    · simp only [List.length_cons]; omega
    · rw [mhas_putR, hh m (List.mem_cons_of_mem _ hm)]
      have : ¬ m = n := fun e => h.1 (by rw [← e]; exact hm)
      simp [this]
theorem ix_look (s : Bytes) : ∀ (ns : List Bytes) (rs : List Rt) (i : Nat), ns.length = rs.length →
    (∃ k : Nat, ixP (eqS s) ns i = ((i + k : Nat) : Int) ∧ k < rs.length ∧ ∃ r, rs[k]? = some r ∧ lookR ns rs s = some r) ∨ (ixP (eqS s) ns i = -1 ∧ lookR ns rs s = none)
  | [], _, i, _ => .inr ⟨rfl, rfl⟩
  | n :: ns, [], i, h => by simp at h
  | n :: ns, r :: rs, i, h => by
    have h : ns.length = rs.length := by simpa using h
    by_cases h1 : s = n
    · left
      refine ⟨0, ?_, by simp, r, rfl, by simp [lookR, h1]⟩
      simp [ixP, eqS, h1]
    · have he : ¬ eqS s n = true := by simpa [eqS] using h1
      simp only [ixP, lookR, if_neg h1, if_neg he]
      rcases ix_look s ns rs (i + 1) h with ⟨k, a, b, r', c, d⟩ | ⟨a, b⟩
      · left
        refine ⟨k + 1, by rw [a]; congr 1; omega, by simp only [List.length_cons]; omega, r', by simpa using c, d⟩
      · exact .inr ⟨a, b⟩
/-! ### Dual numbers of ratios -/
/-- This pair of ratios stands for this pair of numbers. -/
def DR (p : Du) (q : D2) : Prop := rOk p.1 = true ∧ rOk p.2 = true ∧ rv p.1 = q.1 ∧ rv p.2 = q.2
theorem d_add {a b : Du} {u v : D2} (ha : DR a u) (hb : DR b v) (h : (dSum rAdd a b).2 = true) : DR (dSum rAdd a b).1 (u.1 + v.1, u.2 + v.2) := by
  obtain ⟨a1, a2, a3, a4⟩ := ha
  obtain ⟨b1, b2, b3, b4⟩ := hb
  simp only [dSum, decide_eq_true_eq] at h
  obtain ⟨c1, c2⟩ := done_ok (add_done a1 b1) h.1
  obtain ⟨d1, d2⟩ := done_ok (add_done a2 b2) h.2
  exact ⟨c1, d1, by simp only [dSum]; rw [c2, a3, b3], by simp only [dSum]; rw [d2, a4, b4]⟩
theorem d_sub {a b : Du} {u v : D2} (ha : DR a u) (hb : DR b v) (h : (dSum rSub a b).2 = true) : DR (dSum rSub a b).1 (u.1 - v.1, u.2 - v.2) := by
  obtain ⟨a1, a2, a3, a4⟩ := ha
  obtain ⟨b1, b2, b3, b4⟩ := hb
  simp only [dSum, decide_eq_true_eq] at h
  obtain ⟨c1, c2⟩ := done_ok (sub_done a1 b1) h.1
  obtain ⟨d1, d2⟩ := done_ok (sub_done a2 b2) h.2
  exact ⟨c1, d1, by simp only [dSum]; rw [c2, a3, b3], by simp only [dSum]; rw [d2, a4, b4]⟩
theorem d_times {a b : Du} {u v : D2} (ha : DR a u) (hb : DR b v) (h : (dTimes a b).2 = true) : DR (dTimes a b).1 (u.1 * v.1, u.2 * v.1 + u.1 * v.2) := by
  obtain ⟨a1, a2, a3, a4⟩ := ha
  obtain ⟨b1, b2, b3, b4⟩ := hb
  simp only [dTimes, decide_eq_true_eq] at h
  obtain ⟨h1, h2, h3, h4⟩ := h
  obtain ⟨c1, c2⟩ := done_ok (mul_done a1 b1) h1
  obtain ⟨d1, d2⟩ := done_ok (mul_done a2 b1) h2
  obtain ⟨e1, e2⟩ := done_ok (mul_done a1 b2) h3
  obtain ⟨f1, f2⟩ := done_ok (add_done d1 e1) h4
  exact ⟨c1, f1, by simp only [dTimes]; rw [c2, a3, b3], by simp only [dTimes]; rw [f2, d2, e2, a3, a4, b3, b4]⟩
theorem d_inv {a : Du} {u : D2} (ha : DR a u) (h : (dInv a).2 = true) : u.1 ≠ 0 ∧ DR (dInv a).1 (1 / u.1, 0 - u.2 * (1 / u.1 * (1 / u.1))) := by
  obtain ⟨a1, a2, a3, a4⟩ := ha
  simp only [dInv, decide_eq_true_eq] at h
  obtain ⟨h1, h2, h3, h4⟩ := h
  have ok11 : rOk ⟨1, 1⟩ = true := rOk_one (by omega)
  have hz : rv a.1 ≠ 0 := fun e => by
    have := div_zero ok11 a1 e
    omega
  have one1 : rv ⟨1, 1⟩ = 1 := by rw [rv_one]; rfl
  obtain ⟨c1, c2⟩ := done_ok (div_done ok11 a1 hz) h1
  obtain ⟨d1, d2⟩ := done_ok (mul_done c1 c1) h2
  obtain ⟨e1, e2⟩ := done_ok (mul_done a2 d1) h3
  obtain ⟨f1, f2⟩ := done_ok (sub_done ok01' e1) h4
  rw [one1] at c2
  refine ⟨by rw [← a3]; exact hz, c1, f1, ?_, ?_⟩
  · simp only [dInv]; rw [c2, a3]
  · simp only [dInv]; rw [f2, e2, d2, c2, rv01, a3, a4]
theorem d_pow {a : Du} {u : D2} (ha : DR a u) : ∀ (n : Nat) (r : Du) (w : D2), DR r w → (dPow a n r).2 = true → DR (dPow a n r).1 (w.1 * u.1 ^ n, w.2 * u.1 ^ n + w.1 * ((n : Rat) * u.1 ^ (n - 1) * u.2))
  | 0, r, w, hr, _ => by
    obtain ⟨r1, r2, r3, r4⟩ := hr
    refine ⟨r1, r2, ?_, ?_⟩
    · simp only [dPow, Rat.pow_zero]; rw [r3]; grind
    · have e0 : ((0 : Nat) : Rat) = 0 := rfl
      simp only [dPow, Rat.pow_zero, e0]; rw [r4]; grind
  | n + 1, r, w, hr, h => by
    simp only [dPow] at h ⊢
    split at h
    · rename_i ht
      rw [if_pos ht]
      have ih := d_pow ha n _ _ (d_times hr ha ht) h
      obtain ⟨i1, i2, i3, i4⟩ := ih
      refine ⟨i1, i2, ?_, ?_⟩
      · rw [i3]; simp only [Rat.pow_succ]; grind
      · rw [i4]
        have ec : ((n + 1 : Nat) : Rat) = (n : Rat) + 1 := by push_cast; rfl
        simp only [Nat.add_sub_cancel]
        rw [ec]
        cases n with
        | zero =>
          have e0 : ((0 : Nat) : Rat) = 0 := rfl
          simp only [e0, Rat.pow_succ, Rat.pow_zero]; grind
        | succ m =>
          simp only [Nat.add_sub_cancel, Rat.pow_succ]; grind
    · simp [z2] at h
/-- What the reference's value gives. -/
theorem vd_qd {ns : List Bytes} {rs : List Rt} {nm : Bytes} (hn : ns.Nodup) (hl : ns.length = rs.length) (hr : rs.all rOk = true) {e : Ex} (h : VT e) :
    (vd ns rs nm e).2 = true → NV (fun s => hasN (envL ns rs []) s = true) e ∧ ∃ q, qd (rho (envL ns rs [])) nm e = some q ∧ DR (vd ns rs nm e).1 q := by
  have ok11 : rOk ⟨1, 1⟩ = true := rOk_one (by omega)
  have one1 : rv ⟨1, 1⟩ = 1 := by rw [rv_one]; rfl
  induction h with
  | num r h0 =>
    intro _
    rw [vd_rat, qd_rat]
    exact ⟨.num r, _, rfl, h0, ok01', rfl, rv01⟩
  | var s hs =>
    rw [vd_var, qd_var]
    intro h
    unfold vdV at h ⊢
    rcases ix_look s ns rs 0 hl with ⟨k, a, b, r, c, d⟩ | ⟨a, b⟩
    · rw [a] at h ⊢
      have hk : ((0 + k : Nat) : Int).toNat = k := by omega
      have hc : ¬ (((0 + k : Nat) : Int) < 0 ∨ (rs.length : Int) ≤ ((0 + k : Nat) : Int)) := by omega
      rw [if_neg hc, hk, c]
      have hm : r ∈ rs := List.mem_of_getElem? c
      have hrr := List.all_eq_true.1 hr r hm
      have hh : hasN (envL ns rs []) s = true := by unfold hasN; rw [mhas_L, d]; rfl
      have hg : mget .str s ⟨0, 0⟩ (envL ns rs []) = r := by rw [mget_L _ _ _ _ _ hn, d]; rfl
      refine ⟨.var s hh, _, rfl, hrr, ?_, ?_, ?_⟩
      · simp only; split
        · exact ok11
        · exact ok01'
      · simp only [rho, Option.getD_some]; rw [hg]
      · simp only; split
        · exact one1
        · exact rv01
    · rw [a] at h
      rw [if_pos (.inl (by omega))] at h
      simp [z2] at h
  | un k a hk ha ih =>
    by_cases h7 : k = 7
    · subst h7
      rw [vd_one _ _ _ a (.inl rfl), qd_one _ _ a (by omega)]
      intro h
      unfold vd1 at h ⊢
      split at h
      · rename_i h1
        obtain ⟨i1, q, i2, i3⟩ := ih h1
        rw [if_pos h1, if_pos rfl]
        rw [if_pos rfl] at h
        refine ⟨.one 7 0 a (by omega) (by omega) i1, (0 - q.1, 0 - q.2), ?_, ?_⟩
        · rw [i2]; obtain ⟨q1, q2⟩ := q; simp only [qd1, if_true, Option.some.injEq, Prod.mk.injEq]; constructor <;> grind
        · exact d_sub (a := (⟨0, 1⟩, ⟨0, 1⟩)) (u := (0, 0)) ⟨ok01', ok01', rv01, rv01⟩ i3 h
      · simp [z2] at h
    · intro h
      rw [vd_fun _ _ _ (by unfold K1 at hk; omega)] at h
      simp [z2] at h
  | pow n a h0 h16 ha ih =>
    rw [vd_one _ _ _ a (.inr rfl), qd_one _ _ a (by omega)]
    intro h
    unfold vd1 at h ⊢
    split at h
    · rename_i h1
      obtain ⟨i1, q, i2, i3⟩ := ih h1
      rw [if_pos h1, if_neg (by omega)]
      rw [if_neg (by omega)] at h
      have hp := d_pow i3 n.toNat (⟨1, 1⟩, ⟨0, 1⟩) (1, 0) ⟨ok11, ok01', one1, rv01⟩ h
      refine ⟨.one 8 n a (by omega) (by omega) i1, _, ?_, hp⟩
      rw [i2]
      obtain ⟨q1, q2⟩ := q
      have e1 : (n - 1).toNat = n.toNat - 1 := by omega
      have e2 : ((n : Int) : Rat) = ((n.toNat : Nat) : Rat) := by
        obtain ⟨m, rfl⟩ : ∃ m : Nat, n = (m : Int) := ⟨n.toNat, by omega⟩
        rfl
      simp only [qd1, e1, e2, reduceIte, Int.reduceEq]
      simp only [Option.some.injEq, Prod.mk.injEq]
      constructor <;> grind
    · simp [z2] at h
  | bin k a b hk ha hb ih1 ih2 =>
    rw [vd_two _ _ _ a b hk, qd_two _ _ a b (K2_ne hk)]
    intro h
    unfold vd2 at h ⊢
    split at h
    · rename_i h1
      split at h
      · rename_i h2
        obtain ⟨i1, q, i2, i3⟩ := ih1 h1
        obtain ⟨j1, r, j2, j3⟩ := ih2 h2
        rw [if_pos h1, if_pos h2, i2, j2]
        obtain ⟨q1, q2⟩ := q
        obtain ⟨r1, r2⟩ := r
        simp only [qd2]
        refine ⟨.two k a b (by unfold K2 at hk; omega) (by unfold K2 at hk; omega) i1 j1, ?_⟩
        rcases hk with rfl | rfl | rfl | rfl
        · simp only [reduceIte, Int.reduceEq] at h ⊢
          exact ⟨_, rfl, d_add i3 j3 h⟩
        · simp only [reduceIte, Int.reduceEq] at h ⊢
          exact ⟨_, rfl, d_sub i3 j3 h⟩
        · simp only [reduceIte, Int.reduceEq] at h ⊢
          exact ⟨_, rfl, d_times i3 j3 h⟩
        · simp only [reduceIte, Int.reduceEq] at h ⊢
          split at h
          · rename_i h3
            obtain ⟨k1, k2⟩ := d_inv j3 h3
            have k1 : r1 ≠ 0 := k1
            have k3 := d_times i3 k2 h
            rw [if_neg k1, if_pos h3]
            refine ⟨_, rfl, ?_⟩
            obtain ⟨t1, t2, t3, t4⟩ := k3
            refine ⟨t1, t2, ?_, ?_⟩
            · rw [t3]; simp only; grind
            · rw [t4]; simp only; grind
          · simp [z2] at h
      · simp [z2] at h
    · simp [z2] at h
/-- The value of the derivative is the one that results from computing with values and derivatives. -/
theorem dual_law {e : Ex} {ns : List Bytes} {rs : List Rt} {nm : Bytes} (he : okT e = true) (hn : ns.Nodup) (hl : ns.length = rs.length) (hl2 : ns.length ≤ 200) (hr : rs.all rOk = true)
    (hd : okT (diffE nm (simE e)) = true) (hv : (vd ns rs nm e).2 = true) : exF (diffE nm (simE e)) ns rs = ((vd ns rs nm e).1.2, 0) ∨ ∃ z, exF (diffE nm (simE e)) ns rs = (z, 9) := by
  have ht := okT_VT he
  obtain ⟨i1, q, i2, i3⟩ := vd_qd hn hl hr ht hv
  obtain ⟨q1, q2⟩ := q
  have hq := diff_qv (VT_sim ht) _ _ (sim_qd ht _ i2)
  obtain ⟨sr, sv⟩ := NV_all (NV_diff (nm := nm) (VT_sim ht) (NV_sim ht i1))
  have hA : EnvA (envL ns rs []) := envA_L hr (fun p hp => by simp at hp)
  have hok : ∀ s, hasN (envL ns rs []) s = true → rOk (mget .str s ⟨0, 0⟩ (envL ns rs [])) = true := fun s hs => by
    obtain ⟨p, h1, h2⟩ := mget_mem (z := ⟨0, 0⟩) hs
    rw [h2]; exact hA p h1
  have x2 := xc_val (envL ns rs []) (okT_VT hd) sr fun y hy h2 => hok _ (sv y hy h2)
  have hlen : (envL ns rs []).length = rs.length := by rw [len_L ns rs [] hn hl (fun _ _ => rfl)]; simp only [List.length_nil]; omega
  unfold exF
  rw [if_pos ⟨⟨hl, hl2⟩, hlen, by unfold ratB; rw [hd, sr]; rfl, hr, (nm_all hd _).2 sv⟩]
  rcases x2.1 _ hq with ⟨e1, e2, e3⟩ | e1
  · left
    rw [if_pos e1]
    have : (xcE (envL ns rs []) (diffE nm (simE e))).1 = (vd ns rs nm e).1.2 := rv_inj e2 i3.2.1 (by rw [e3]; exact i3.2.2.2.symm)
    rw [← this, ← e1]
  · right
    rw [if_neg (by omega), e1]
    exact ⟨_, rfl⟩
end Go.Proofs.Ytmcdnbmamoggoaa

/-
  The law: DeriveDual.
-/
namespace Go.Proofs.Ytmcdnbmamoggoaa
open Go Go.Sx
set_option maxRecDepth 100000
set_option maxHeartbeats 8000000
theorem any_eqS {s : Bytes} {l : List Bytes} : l.any (eqS s) = false ↔ s ∉ l := by
  rw [List.any_eq_false]
  constructor
  · intro h hm
    exact h s hm (by simp [eqS])
  · intro h x hx he
    have : s = x := by simpa [eqS] using he
    exact h (by rw [this]; exact hx)
theorem nodup_take {l : List Bytes} {i : Nat} {n : Bytes} (hn : l[i]? = some n) (h : (l.take i).Nodup) (h2 : n ∉ l.take i) : (l.take (i + 1)).Nodup := by
  rw [List.take_add_one, hn, List.nodup_append]
  refine ⟨h, by simp, fun a ha b hb e => ?_⟩
  simp at hb
  rw [← hb, ← e] at h2
  exact h2 ha
theorem f12 (e : Ex) (ns : List Bytes) (rs : List Rt) (nm : Bytes) (he : Sm e) (hns : ∀ x ∈ ns, x.length < 9223372036854775808) (hn : ns.length < 9223372036854775808) (hr : rs.length < 9223372036854775808) (hm : nm.length < 9223372036854775808) :
    Fn 12 [] [.agg (exC e), .sl .str ns, .sl .rat rs, .str nm] (.bool true) [] := by
  have h16 := f16 e nm he hm
  have h52 := f52 rs hr
  refine fnT hT hmx Try.func12 rfl rfl (ex := []) ?_
  conv => whnf
  refine ⟨[], _, f14, ?_⟩
  conv => whnf
  refine cbI [] (smB e) (f28 e he) (fun hs => ?_) (fun hs => ?_)
  rotate_left
  · conv => whnf
    refine ⟨[], _, f14, ?_⟩
    conv => whnf
    exact ⟨leA_refl rfl, leH_nil⟩
  conv => whnf
  refine brI (fun h1 => ?_) (fun h1 => ?_)
  · conv => whnf
    refine ⟨[], _, f14, ?_⟩
    conv => whnf
    exact ⟨leA_refl rfl, leH_nil⟩
  have h1 : ¬ 8 < ns.length := by simp only [decide_eq_false_iff_not] at h1; omega
  conv => whnf
  refine brI (fun h2 => ?_) (fun h2 => ?_)
  · conv => whnf
    refine ⟨[], _, f14, ?_⟩
    conv => whnf
    exact ⟨leA_refl rfl, leH_nil⟩
  have hl : ns.length = rs.length := by
    have h2 : ((rs.length : Int) != (ns.length : Int)) = false := h2
    simp at h2; omega
  conv => whnf
  refine brI (fun h3 => ?_) (fun h3 => ?_)
  · conv => whnf
    refine ⟨[], _, f14, ?_⟩
    conv => whnf
    exact ⟨leA_refl rfl, leH_nil⟩
  conv => whnf
  refine cbI [] (rs.any badR) h52 (fun h4 => ?_) (fun h4 => ?_)
  · conv => whnf
    refine ⟨[], _, f14, ?_⟩
    conv => whnf
    exact ⟨leA_refl rfl, leH_nil⟩
  have hok : rs.all rOk = true := by
    rw [List.all_eq_true]
    intro r hr
    have := (List.any_eq_false.1 h4) r hr
    simpa [badR] using this
  conv => whnf
  have ho := smB_ok hs
  refine ⟨Nat, fun i => i ≤ ns.length ∧ (ns.take i).Nodup, fun i => [(48, .int .i64 i)], fun _ => [], fun i => ns.length - i, 0, ⟨by omega, by simp⟩, ?_, fun i hi => ?_⟩
  · ((conv => whnf); refine And.intro ?_ ?_; repeat' first | refine leL_cons ?_ ?_ | exact leA_any | exact leA_refl rfl | exact leL_nil | refine leH_cons ?_ ?_ | exact leH_nil | exact leB_free | exact leB_dead | refine leB_cells ?_ | exact leB_map rfl | exact leB_gst rfl | exact leA_nil rfl | refine leA_agg ?_ | refine leA_tup ?_ | fail)
  (refine ⟨by kernel_rfl, ?_⟩; (conv => whnf))
  obtain ⟨hi1, hi2⟩ := hi
  refine brI (fun h5 => ?_) (fun h5 => ?_)
  · conv => whnf
    have hi : i < ns.length := by simp only [decide_eq_true_eq] at h5; omega
    refine ⟨⟨by omega, by omega⟩, fun n hx => ?_⟩
    have hx : ns[i]? = some n := by simpa using hx
    have hnl := hns n (List.mem_of_getElem? hx)
    conv => whnf
    refine ⟨[], _, f18 n, ?_⟩
    conv => whnf
    refine cbI [] (nameB n) (by rw [← ok_var]; exact f17 (varE n) (Sm_var hnl)) (fun h6 => ?_) (fun h6 => ?_)
    · conv => whnf
      refine ⟨⟨by omega, by omega, by omega⟩, ?_⟩
      conv => whnf
      refine cbI [] ((ns.take i).any (eqS n)) (f55 (ns.take i) n (by rw [List.length_take]; omega)) (fun h7 => ?_) (fun h7 => ?_)
      · conv => whnf
        exact ⟨leA_refl rfl, leH_nil⟩
      · conv => whnf
        refine ⟨i + 1, ⟨by omega, nodup_take hx hi2 (any_eqS.1 h7)⟩, by show ns.length - (i + 1) < ns.length - i; omega, ?_⟩
        ((conv => whnf); refine And.intro ?_ ?_; repeat' first | refine leL_cons ?_ ?_ | exact leA_any | exact leA_refl rfl | exact leL_nil | refine leH_cons ?_ ?_ | exact leH_nil | exact leB_free | exact leB_dead | refine leB_cells ?_ | exact leB_map rfl | exact leB_gst rfl | exact leA_nil rfl | refine leA_agg ?_ | refine leA_tup ?_ | fail)
        exact leA_int (by rw [wI (by omega)]; omega)
    · conv => whnf
      exact ⟨leA_refl rfl, leH_nil⟩
  have hi : ¬ i < ns.length := by simp only [decide_eq_false_iff_not] at h5; omega
  have hnd : ns.Nodup := by rwa [List.take_of_length_le (by omega)] at hi2
  have hlaw := @dual_law e ns rs nm ho hnd hl (by omega) hok
  have h56 := f56 (ns := ns) (rs := rs) (nm := nm) hn (okT_VT ho)
  unfold VdOK at h56
  clear hi1 hi2 hi h5 h4 h52
  generalize vd ns rs nm e = V at h56 hlaw
  obtain ⟨⟨x, d⟩, b⟩ := V
  obtain ⟨D, hD⟩ : ∃ D, dfE e nm = D := ⟨_, rfl⟩
  rw [hD] at h16
  obtain ⟨d', f⟩ := D
  by_cases hf : f = 0
  rotate_left
  · conv => whnf
    refine ⟨[], _, h16, ?_⟩
    conv => whnf
    refine ⟨[], _, h56, ?_⟩
    conv => whnf
    refine brI (fun _ => ?_) (fun h => absurd h (by simp [hf]))
    conv => whnf
    exact ⟨leA_refl rfl, leH_nil⟩
  subst hf
  conv => whnf
  refine ⟨[], _, h16, ?_⟩
  conv => whnf
  cases b with
  | false =>
    refine ⟨[], _, h56, ?_⟩
    conv => whnf
    exact ⟨leA_refl rfl, leH_nil⟩
  | true =>
    refine ⟨[], _, h56, ?_⟩
    conv => whnf
    have hdd : okT (diffE nm (simE e)) = true ∧ d' = diffE nm (simE e) := by
      unfold dfE at hD
      split at hD
      · split at hD
        · rename_i h; simp at hD; exact ⟨h, hD.symm⟩
        · simp at hD
      · simp at hD
    have hlaw := hlaw hdd.1 rfl
    have h51 := f51 d' ns rs (by rw [hdd.2]; exact VT_Sm (okT_VT hdd.1)) hn hr
    rw [← hdd.2] at hlaw
    generalize exF d' ns rs = E at h51 hlaw
    rcases hlaw with rfl | ⟨z, rfl⟩
    · refine ⟨[], _, h51, ?_⟩
      conv => whnf
      refine brI (fun _ => ?_) (fun h => absurd h (by simp))
      conv => whnf
      exact ⟨leA_bool (by simp), leH_nil⟩
    · refine ⟨[], _, h51, ?_⟩
      conv => whnf
      exact ⟨leA_refl rfl, leH_nil⟩
end Go.Proofs.Ytmcdnbmamoggoaa
