/-
  Exact values: rational numbers; what the simple forms are worth.
-/
import Derived.Test.YtmcdnbmamoggoaaQVb
import Derived.Test.YtmcdnbmamoggoaaQWx
import Derived.Test.YtmcdnbmamoggoaaQUs
import Derived.Test.YtmcdnbmamoggoaaQUL
import Derived.Test.YtmcdnbmamoggoaaQUn
set_option linter.unusedVariables false
set_option linter.unusedSimpArgs false
namespace Go.Proofs.Ytmcdnbmamoggoaa
open Go Go.Sx
def rv (r : Rt) : Rat := (r.n : Rat) / (r.d : Rat)
theorem rat_ne {a : Int} (h : a ≠ 0) : (a : Rat) ≠ 0 := by
  intro e
  exact h (by exact_mod_cast e)
theorem rdiv_eq {a b c d : Int} (hb : b ≠ 0) (hd : d ≠ 0) (h : a * d = c * b) : (a : Rat) / (b : Rat) = (c : Rat) / (d : Rat) := by
  have hb := rat_ne hb
  have hd := rat_ne hd
  have h : (a : Rat) * (d : Rat) = (c : Rat) * (b : Rat) := by exact_mod_cast h
  grind
theorem req_div {a b c d : Int} (hb : b ≠ 0) (hd : d ≠ 0) (h : (a : Rat) / (b : Rat) = (c : Rat) / (d : Rat)) : a * d = c * b := by
  have hb := rat_ne hb
  have hd := rat_ne hd
  have h : (a : Rat) * (d : Rat) = (c : Rat) * (b : Rat) := by grind
  exact_mod_cast h
theorem rMake_val {n d : Int} (hd : d ≠ 0) : ((rMake n d).2 = 0 ∧ rv (rMake n d).1 = (n : Rat) / (d : Rat)) ∨ (rMake n d).2 = 9 := by
  unfold rMake
  rw [if_neg hd]
  cases hl : low (decide (n < 0) != decide (d < 0)) n.natAbs d.natAbs with
  | none => exact .inr rfl
  | some r =>
    refine .inl ⟨rfl, ?_⟩
    unfold low at hl
    split at hl
    · cases hl
      have hg : 0 < Nat.gcd n.natAbs d.natAbs := Nat.gcd_pos_of_pos_right _ (by omega)
      have h1 := Nat.div_mul_cancel (Nat.gcd_dvd_left n.natAbs d.natAbs)
      have h2 := Nat.div_mul_cancel (Nat.gcd_dvd_right n.natAbs d.natAbs)
      generalize Nat.gcd n.natAbs d.natAbs = g at *
      generalize n.natAbs / g = p at *
      generalize d.natAbs / g = q at *
      unfold rv
      have hq : (q : Int) ≠ 0 := by
        intro e; have : q = 0 := by omega
        subst this; simp at h2; omega
      have h1' : (p : Int) * g = n.natAbs := by exact_mod_cast h1
      have h2' : (q : Int) * g = d.natAbs := by exact_mod_cast h2
      refine rdiv_eq hq hd ?_
      have hgz : (g : Int) ≠ 0 := by omega
      apply Int.eq_of_mul_eq_mul_right hgz
      by_cases a : n < 0 <;> by_cases b : d < 0 <;> simp [a, b]
      · have e1 : (p : Int) * g = -n := by omega
        have e2 : (q : Int) * g = -d := by omega
        grind
      · have e1 : (p : Int) * g = -n := by omega
        have e2 : (q : Int) * g = d := by omega
        grind
      · have e1 : (p : Int) * g = n := by omega
        have e2 : (q : Int) * g = -d := by omega
        grind
      · have e1 : (p : Int) * g = n := by omega
        have e2 : (q : Int) * g = d := by omega
        grind
    · cases hl
theorem rv_inj {r s : Rt} (hr : rOk r = true) (hs : rOk s = true) (h : rv r = rv s) : r = s := by
  simp only [rOk, Bool.and_eq_true, decide_eq_true_eq, beq_iff_eq] at hr hs
  obtain ⟨⟨r1, _, _, _⟩, r2⟩ := hr
  obtain ⟨⟨s1, _, _, _⟩, s2⟩ := hs
  obtain ⟨a, b⟩ := r
  obtain ⟨c, d⟩ := s
  simp only at *
  have e   := req_div (b := b) (d := d) (by omega) (by omega) h
  have e2 : a.natAbs * d.natAbs = c.natAbs * b.natAbs := by
    rw [← Int.natAbs_mul, ← Int.natAbs_mul, e]
  have hbd : b.natAbs ∣ d.natAbs := by
    have : b.natAbs ∣ a.natAbs * d.natAbs := by rw [e2]; exact Nat.dvd_mul_left _ _
    exact Nat.Coprime.dvd_of_dvd_mul_left (Nat.Coprime.symm r2) this
  have hdb : d.natAbs ∣ b.natAbs := by
    have : d.natAbs ∣ c.natAbs * b.natAbs := by rw [← e2]; exact Nat.dvd_mul_left _ _
    exact Nat.Coprime.dvd_of_dvd_mul_left (Nat.Coprime.symm s2) this
  have hb : b.natAbs = d.natAbs := Nat.dvd_antisymm hbd hdb
  obtain rfl : b = d := by omega
  have : a = c := Int.eq_of_mul_eq_mul_right (a := b) (by omega) e
  rw [this]

theorem rd_ne {r : Rt} (h : rOk r = true) : r.d ≠ 0 := by have := (rOk_in h).1; omega
/-- An operation that is done, with this value, or too big. -/
def Done (p : Rt × Int) (x : Rat) : Prop := (p.2 = 0 ∧ rOk p.1 = true ∧ rv p.1 = x) ∨ p.2 = 9
theorem done_make {n d : Int} {x : Rat} (hd : d ≠ 0) (h : (n : Rat) / (d : Rat) = x) : Done (rMake n d) x := by
  rcases rMake_val (n := n) hd with ⟨h1, h2⟩ | h1
  · exact .inl ⟨h1, rMake_ok h1, by rw [h2, h]⟩
  · exact .inr h1
theorem add_done {a b : Rt} (ha : rOk a = true) (hb : rOk b = true) : Done (rAdd a b) (rv a + rv b) := by
  unfold rAdd
  rw [rOp_yes ha hb]
  have h1 := rd_ne ha
  have h2 := rd_ne hb
  refine done_make (Int.mul_ne_zero h1 h2) ?_
  have h1 := rat_ne h1
  have h2 := rat_ne h2
  unfold rv
  simp only [Rat.intCast_add, Rat.intCast_mul]
  grind
theorem sub_done {a b : Rt} (ha : rOk a = true) (hb : rOk b = true) : Done (rSub a b) (rv a - rv b) := by
  unfold rSub
  rw [rOp_yes ha hb]
  have h1 := rd_ne ha
  have h2 := rd_ne hb
  refine done_make (Int.mul_ne_zero h1 h2) ?_
  have h1 := rat_ne h1
  have h2 := rat_ne h2
  unfold rv
  simp only [Rat.intCast_sub, Rat.intCast_mul]
  grind
theorem mul_done {a b : Rt} (ha : rOk a = true) (hb : rOk b = true) : Done (rMul a b) (rv a * rv b) := by
  unfold rMul
  rw [rOp_yes ha hb]
  have h1 := rd_ne ha
  have h2 := rd_ne hb
  refine done_make (Int.mul_ne_zero h1 h2) ?_
  have h1 := rat_ne h1
  have h2 := rat_ne h2
  unfold rv
  simp only [Rat.intCast_mul]
  grind
theorem rv_zero {b : Rt} (hb : rOk b = true) : rv b = 0 ↔ b.n = 0 := by
  have h2 := rat_ne (rd_ne hb)
  unfold rv
  constructor
  · intro h
    have h3 : (b.n : Rat) = 0 := by grind
    exact_mod_cast h3
  · intro h
    rw [h]; grind
theorem div_done {a b : Rt} (ha : rOk a = true) (hb : rOk b = true) (h0 : rv b ≠ 0) : Done (rDiv a b) (rv a / rv b) := by
  unfold rDiv
  rw [rOp_yes ha hb]
  have h1 := rd_ne ha
  have h2 := rd_ne hb
  have h3 : b.n ≠ 0 := fun e => h0 ((rv_zero hb).2 e)
  refine done_make (Int.mul_ne_zero h1 h3) ?_
  have h1 := rat_ne h1
  have h2 := rat_ne h2
  have h3 := rat_ne h3
  unfold rv
  simp only [Rat.intCast_mul]
  grind
theorem div_zero {a b : Rt} (ha : rOk a = true) (hb : rOk b = true) (h0 : rv b = 0) : (rDiv a b).2 = 10 := by
  unfold rDiv
  rw [rOp_yes ha hb, (rv_zero hb).1 h0]
  simp [rMake]
theorem rv_one (n : Int) : rv ⟨n, 1⟩ = (n : Rat) := by
  show (n : Rat) / ((1 : Int) : Rat) = n
  have : ((1 : Int) : Rat) = 1 := rfl
  rw [this]; grind
theorem pow_done {a : Rt} (ha : rOk a = true) : ∀ (n : Nat) (r : Rt), rOk r = true → Done (powX a n r) (rv r * rv a ^ n)
  | 0, r, hr => .inl ⟨rfl, hr, by simp [powX, Rat.pow_zero]⟩
  | n + 1, r, hr => by
    simp only [powX]
    rcases mul_done hr ha with ⟨h1, h2, h3⟩ | h1
    · rw [if_pos h1]
      have := pow_done ha n _ h2
      rw [h3] at this
      rw [Rat.pow_succ]
      have e : rv r * rv a * rv a ^ n = rv r * (rv a ^ n * rv a) := by grind
      rw [← e]; exact this
    · rw [if_neg (by omega)]; exact .inr h1
/-! ### Values -/
def qop1 (k n : Int) : Option Rat → Option Rat
  | none => none
  | some a => if k = 7 then some (-a) else if k = 8 then some (a ^ n.toNat) else none
def qop2 (k : Int) : Option Rat → Option Rat → Option Rat
  | some a, some b => if k = 3 then some (a + b) else if k = 4 then some (a - b) else if k = 5 then some (a * b) else if b = 0 then none else some (a / b)
  | _, _ => none
def qopL (k n : Int) : List (Option Rat) → Option Rat
  | [a] => qop1 k n a
  | [a, b] => qop2 k a b
  | _ => none
mutual
def qv (ρ : Bytes → Rat) : Ex → Option Rat
  | .mk k q s p l => if k = 1 then some (rv q) else if k = 2 then some (ρ s) else qopL k p (qvL ρ l)
def qvL (ρ : Bytes → Rat) : List Ex → List (Option Rat)
  | [] => []
  | x :: l => qv ρ x :: qvL ρ l
end
theorem qv_rat (ρ : Bytes → Rat) (r : Rt) : qv ρ (ratE r) = some (rv r) := by simp [ratE, qv]
theorem qv_num (ρ : Bytes → Rat) (n : Int) : qv ρ (numE n) = some (n : Rat) := by simp [numE, qv, rv_one]
theorem qv_var (ρ : Bytes → Rat) (s : Bytes) : qv ρ (varE s) = some (ρ s) := by simp [varE, qv]
theorem qv_one (ρ : Bytes → Rat) {k n : Int} (a : Ex) (h : k ≠ 1 ∧ k ≠ 2) : qv ρ (opE k n [a]) = qop1 k n (qv ρ a) := by simp [opE, qv, qvL, qopL, h]
theorem qv_two (ρ : Bytes → Rat) {k : Int} (a b : Ex) (h : k ≠ 1 ∧ k ≠ 2) : qv ρ (opE k 0 [a, b]) = qop2 k (qv ρ a) (qv ρ b) := by simp [opE, qv, qvL, qopL, h]
theorem xc_rat (es : Env0) (r : Rt) : xcE es (ratE r) = (r, 0) := by simp [ratE, xcE]
theorem xc_var (es : Env0) (s : Bytes) : xcE es (varE s) = (mget .str s ⟨0, 0⟩ es, 0) := by simp [varE, xcE]
theorem xc_neg (es : Env0) (a : Ex) : xcE es (opE 7 0 [a]) = if (xcE es a).2 = 0 then rSub ⟨0, 1⟩ (xcE es a).1 else xcE es a := by simp [opE, xcE, xcL, xop]
theorem xc_pow (es : Env0) (n : Int) (a : Ex) : xcE es (opE 8 n [a]) = if (xcE es a).2 = 0 then powX (xcE es a).1 n.toNat ⟨1, 1⟩ else xcE es a := by simp [opE, xcE, xcL, xop]
theorem xc_two (es : Env0) (k : Int) (a b : Ex) (h1 : k ≠ 1) (h2 : k ≠ 2) : xcE es (opE k 0 [a, b]) = if (xcE es a).2 = 0 then (if (xcE es b).2 = 0 then xop k 0 (xcE es a).1 (xcE es b).1 else xcE es b) else xcE es a := by simp [opE, xcE, xcL, h1, h2]
/-- All variables of an expression have values, which are valid. -/
def VarsOk (es : Env0) (e : Ex) : Prop := ∀ y ∈ preE e, y.k = 2 → rOk (mget .str y.s ⟨0, 0⟩ es) = true
theorem done_ok {p : Rt × Int} {x : Rat} (h : Done p x) (h0 : p.2 = 0) : rOk p.1 = true ∧ rv p.1 = x := by
  rcases h with ⟨_, h2, h3⟩ | h1
  · exact ⟨h2, h3⟩
  · omega
theorem done_err {p : Rt × Int} {x y : Rat} (h : Done p x) (h0 : p.2 ≠ 0) : Done p y := by
  rcases h with ⟨h1, _⟩ | h1
  · exact absurd h1 h0
  · exact .inr h1
abbrev rho (es : Env0) : Bytes → Rat := fun s => rv (mget .str s ⟨0, 0⟩ es)
theorem rv01 : rv ⟨0, 1⟩ = 0 := by rw [rv_one]; rfl
theorem ok01' : rOk ⟨0, 1⟩ = true := rOk_one (by omega)
/-- Where there is a value, exactly gives it, or something is too big; what exactly gives is a value. -/
theorem xc_val (es : Env0) {e : Ex} (h : VT e) (hr : allE (fun y => decide (y.k < 9)) e = true) (hv : VarsOk es e) :
    (∀ x, qv (rho es) e = some x → Done (xcE es e) x) ∧ ((xcE es e).2 = 0 → ∃ x, qv (rho es) e = some x) := by
  induction h with
  | num r hr0 =>
    rw [qv_rat, xc_rat]
    exact ⟨fun x hx => .inl ⟨rfl, hr0, Option.some.inj hx⟩, fun _ => ⟨_, rfl⟩⟩
  | var s hs =>
    rw [qv_var, xc_var]
    exact ⟨fun x hx => .inl ⟨rfl, hv (varE s) (by simp [varE, preE, preL]) rfl, Option.some.inj hx⟩, fun _ => ⟨_, rfl⟩⟩
  | un k a hk _ ih =>
    have hr : (decide (k < 9) && (allE (fun y => decide (y.k < 9)) a && true)) = true := hr
    simp only [Bool.and_eq_true, decide_eq_true_eq, Bool.and_true] at hr
    obtain rfl : k = 7 := by unfold K1 at hk; omega
    obtain ⟨i1, i2⟩ := ih hr.2 fun y hy => hv y (by simp only [opE, preE, preL, List.append_nil]; exact List.mem_cons_of_mem _ hy)
    rw [qv_one _ a (by omega), xc_neg]
    constructor
    · intro x hx
      cases ha : qv (rho es) a with
      | none => rw [ha] at hx; simp [qop1] at hx
      | some y =>
        rw [ha] at hx
        have hx : -y = x := by simpa [qop1] using hx
        have hd := i1 y ha
        split
        · rename_i h0
          obtain ⟨h1, h2⟩ := done_ok hd h0
          have := sub_done ok01' h1
          rw [rv01, h2] at this
          rw [← hx]
          have e : (0 : Rat) - y = -y := by grind
          rw [← e]; exact this
        · rename_i h0; exact done_err hd h0
    · intro h0
      split at h0
      · rename_i h1
        obtain ⟨y, hy⟩ := i2 h1
        exact ⟨-y, by rw [hy]; simp [qop1]⟩
      · rename_i h1; exact absurd h0 h1
  | pow n a h1 h2 _ ih =>
    have hr : (decide ((8 : Int) < 9) && (allE (fun y => decide (y.k < 9)) a && true)) = true := hr
    simp only [Bool.and_eq_true, decide_eq_true_eq, Bool.and_true] at hr
    obtain ⟨i1, i2⟩ := ih hr.2 fun y hy => hv y (by simp only [opE, preE, preL, List.append_nil]; exact List.mem_cons_of_mem _ hy)
    rw [qv_one _ a (by omega), xc_pow]
    constructor
    · intro x hx
      cases ha : qv (rho es) a with
      | none => rw [ha] at hx; simp [qop1] at hx
      | some y =>
        rw [ha] at hx
        have hx : y ^ n.toNat = x := by simpa [qop1] using hx
        have hd := i1 y ha
        split
        · rename_i h0
          obtain ⟨h1, h2⟩ := done_ok hd h0
          have := pow_done h1 n.toNat ⟨1, 1⟩ (rOk_one (by omega))
          rw [rv_one, h2] at this
          rw [← hx]
          have e : ((1 : Int) : Rat) * y ^ n.toNat = y ^ n.toNat := by grind
          rw [← e]; exact this
        · rename_i h0; exact done_err hd h0
    · intro h0
      split at h0
      · rename_i h1
        obtain ⟨y, hy⟩ := i2 h1
        exact ⟨y ^ n.toNat, by rw [hy]; simp [qop1]⟩
      · rename_i h1; exact absurd h0 h1
  | bin k a b hk _ _ ih1 ih2 =>
    have hr : (decide (k < 9) && (allE (fun y => decide (y.k < 9)) a && (allE (fun y => decide (y.k < 9)) b && true))) = true := hr
    simp only [Bool.and_eq_true, decide_eq_true_eq, Bool.and_true] at hr
    obtain ⟨i1, i2⟩ := ih1 hr.2.1 fun y hy => hv y (by simp only [opE, preE, preL, List.append_nil]; exact List.mem_cons_of_mem _ (List.mem_append_left _ hy))
    obtain ⟨j1, j2⟩ := ih2 hr.2.2 fun y hy => hv y (by simp only [opE, preE, preL, List.append_nil]; exact List.mem_cons_of_mem _ (List.mem_append_right _ hy))
    have hkk : k ≠ 1 ∧ k ≠ 2 := K2_ne hk
    rw [qv_two _ a b hkk, xc_two es k a b hkk.1 hkk.2]
    constructor
    · intro x hx
      cases ha : qv (rho es) a with
      | none => rw [ha] at hx; simp [qop2] at hx
      | some y =>
        cases hb : qv (rho es) b with
        | none => rw [ha, hb] at hx; simp [qop2] at hx
        | some z =>
          rw [ha, hb] at hx
          have hd := i1 y ha
          have he := j1 z hb
          split
          · rename_i h0
            obtain ⟨h1, h2⟩ := done_ok hd h0
            split
            · rename_i g0
              obtain ⟨g1, g2⟩ := done_ok he g0
              rcases hk with rfl | rfl | rfl | rfl
              · have hx : y + z = x := by simpa [qop2] using hx
                have := add_done h1 g1
                rw [h2, g2, hx] at this
                simpa [xop] using this
              · have hx : y - z = x := by simpa [qop2] using hx
                have := sub_done h1 g1
                rw [h2, g2, hx] at this
                simpa [xop] using this
              · have hx : y * z = x := by simpa [qop2] using hx
                have := mul_done h1 g1
                rw [h2, g2, hx] at this
                simpa [xop] using this
              · by_cases hz : z = 0
                · simp [qop2, hz] at hx
                · have hx : y / z = x := by simpa [qop2, hz] using hx
                  have := div_done h1 g1 (by rw [g2]; exact hz)
                  rw [h2, g2, hx] at this
                  simpa [xop] using this
            · rename_i g0; exact done_err he g0
          · rename_i h0; exact done_err hd h0
    · intro h0
      split at h0
      · rename_i h1
        split at h0
        · rename_i g1
          obtain ⟨y, hy⟩ := i2 h1
          obtain ⟨z, hz⟩ := j2 g1
          rw [hy, hz]
          rcases hk with rfl | rfl | rfl | rfl
          · exact ⟨y + z, by simp [qop2]⟩
          · exact ⟨y - z, by simp [qop2]⟩
          · exact ⟨y * z, by simp [qop2]⟩
          · by_cases hz0 : z = 0
            · have hd := done_ok (i1 y hy) h1
              have he := done_ok (j1 z hz) g1
              have h9 := div_zero hd.1 he.1 (by rw [he.2]; exact hz0)
              have h0' : (rDiv (xcE es a).1 (xcE es b).1).2 = 0 := by simpa [xop] using h0
              omega
            · exact ⟨y / z, by simp [qop2, hz0]⟩
        · rename_i g1; exact absurd h0 g1
      · rename_i h1; exact absurd h0 h1
/-! ### Simple forms are worth the same -/
theorem okN_some {p : Rt × Int} {r : Rt} (h : okN p = some r) : p.2 = 0 ∧ p.1 = r := by
  unfold okN at h
  split at h
  · rename_i h0; exact ⟨h0, Option.some.inj h⟩
  · cases h
theorem powN_val {a : Rt} (ha : rOk a = true) : ∀ (n : Nat) (r : Rt) (s : Rt), rOk r = true → powN a n r = some s → rv s = rv r * rv a ^ n
  | 0, r, s, hr, h => by
    have h : r = s := Option.some.inj h
    subst h
    rw [Rat.pow_zero]; grind
  | n + 1, r, s, hr, h => by
    simp only [powN] at h
    split at h
    · rename_i r' hr'
      obtain ⟨h1, h2⟩ := okN_some hr'
      obtain ⟨h3, h4⟩ := done_ok (mul_done hr ha) h1
      rw [h2] at h3 h4
      have := powN_val ha n r' s h3 h
      rw [this, h4, Rat.pow_succ]; grind
    · cases h
theorem VT_num {a : Ex} (h : VT a) (hk : a.k = 1) : ∃ r, rOk r = true ∧ a = ratE r := by
  cases h with
  | num r hr => exact ⟨r, hr, rfl⟩
  | var s hs => simp [varE, Ex.k] at hk
  | un k a h1 _ => simp [opE, Ex.k] at hk; unfold K1 at h1; omega
  | pow n a _ _ _ => simp [opE, Ex.k] at hk
  | bin k a b h1 _ _ => simp [opE, Ex.k] at hk; unfold K2 at h1; omega
theorem isB_val {ρ : Bytes → Rat} {a : Ex} {n : Int} (h : isB a n = true) {y : Rat} (ha : VT a) (hy : qv ρ a = some y) : y = (n : Rat) := by
  simp only [isB, Bool.and_eq_true, beq_iff_eq] at h
  obtain ⟨r, _, rfl⟩ := VT_num ha h.1
  rw [qv_rat] at hy
  obtain ⟨n', d'⟩ := r
  have h1 : n' = n := h.2.1
  have h2 : d' = 1 := h.2.2
  subst h1; subst h2
  rw [← Option.some.inj hy, rv_one]
theorem sim1_val {ρ : Bytes → Rat} {k n : Int} {a : Ex} (hk : k = 7 ∨ k = 8) (hn : 0 ≤ n) (ha : VT a) {x : Rat} (h : qop1 k n (qv ρ a) = some x) : qv ρ (op1 k n a) = some x := by
  cases hy : qv ρ a with
  | none => rw [hy] at h; simp [qop1] at h
  | some y =>
    rw [hy] at h
    unfold op1
    cases hf : foldN k n [a] with
    | some r =>
      simp only
      rw [qv_rat]
      unfold foldN at hf
      split at hf
      · rename_i hall
        have hka : a.k = 1 := by simpa using hall
        obtain ⟨s, hs, rfl⟩ := VT_num ha hka
        rw [qv_rat] at hy
        have hy : rv s = y := Option.some.inj hy
        have hq : q0 [ratE s] = s := rfl
        rw [hq] at hf
        rcases hk with rfl | rfl
        · have hx : -y = x := by simpa [qop1] using h
          have hf : okN (rSub ⟨0, 1⟩ s) = some r := by simpa using hf
          obtain ⟨h1, h2⟩ := okN_some hf
          obtain ⟨_, h4⟩ := done_ok (sub_done ok01' hs) h1
          rw [h2, rv01] at h4
          rw [h4, ← hx, ← hy]; congr 1; grind
        · have hx : y ^ n.toNat = x := by simpa [qop1] using h
          have hf : powN s n.toNat ⟨1, 1⟩ = some r := by simpa using hf
          have := powN_val hs n.toNat ⟨1, 1⟩ r (rOk_one (by omega)) hf
          rw [rv_one, hy, hx] at this
          rw [this]; congr 1; grind
      · cases hf
    | none =>
      simp only
      have hop : qv ρ (opE k n [a]) = some x := by rw [qv_one ρ a (by omega), hy]; exact h
      unfold sim1
      rcases hk with rfl | rfl
      · rw [if_pos rfl]
        split
        · rename_i h7
          cases ha with
          | num r hr => simp [ratE, Ex.k] at h7
          | var s hs => simp [varE, Ex.k] at h7
          | pow n a _ _ _ => simp [opE, Ex.k] at h7
          | bin k a b h1 _ _ => simp [opE, Ex.k] at h7; unfold K2 at h1; omega
          | un k z h1 hz =>
            have h7 : k = 7 := by simpa [opE, Ex.k] using h7
            subst h7
            show qv ρ z = some x
            rw [qv_one ρ z (by omega)] at hy
            cases hz' : qv ρ z with
            | none => rw [hz'] at hy; simp [qop1] at hy
            | some u =>
              rw [hz'] at hy
              have hy : -u = y := by simpa [qop1] using hy
              have hx : -y = x := by simpa [qop1] using h
              rw [← hx, ← hy]; congr 1; grind
        · exact hop
      · rw [if_neg (by omega), if_pos rfl]
        have hx : y ^ n.toNat = x := by simpa [qop1] using h
        split
        · rename_i h0
          subst h0
          rw [qv_num, ← hx]
          simp only [Int.toNat_zero, Rat.pow_zero]; rfl
        · split
          · rename_i h1
            subst h1
            rw [hy, ← hx]
            have : y ^ (1 : Int).toNat = y := by show y ^ 1 = y; grind
            rw [this]
          · exact hop
theorem sim2_val {ρ : Bytes → Rat} {k : Int} {a b : Ex} (hk : K2 k) (ha : VT a) (hb : VT b) {x : Rat} (h : qop2 k (qv ρ a) (qv ρ b) = some x) : qv ρ (op2 k a b) = some x := by
  cases hy : qv ρ a with
  | none => rw [hy] at h; simp [qop2] at h
  | some y =>
    cases hz : qv ρ b with
    | none => rw [hy, hz] at h; simp [qop2] at h
    | some z =>
      rw [hy, hz] at h
      unfold op2
      cases hf : foldN k 0 [a, b] with
      | some r =>
        simp only
        rw [qv_rat]
        unfold foldN at hf
        split at hf
        · rename_i hall
          have hka : a.k = 1 ∧ b.k = 1 := by simpa using hall
          obtain ⟨s, hs, rfl⟩ := VT_num ha hka.1
          obtain ⟨t, ht, rfl⟩ := VT_num hb hka.2
          rw [qv_rat] at hy hz
          have hy : rv s = y := Option.some.inj hy
          have hz : rv t = z := Option.some.inj hz
          have hq : q0 [ratE s, ratE t] = s := rfl
          have hq1 : q1 [ratE s, ratE t] = t := rfl
          rw [hq, hq1] at hf
          rcases hk with rfl | rfl | rfl | rfl
          · have hx : y + z = x := by simpa [qop2] using h
            have hf : okN (rAdd s t) = some r := by simpa using hf
            obtain ⟨h1, h2⟩ := okN_some hf
            obtain ⟨_, h4⟩ := done_ok (add_done hs ht) h1
            rw [h2] at h4; rw [h4, ← hx, hy, hz]
          · have hx : y - z = x := by simpa [qop2] using h
            have hf : okN (rSub s t) = some r := by simpa using hf
            obtain ⟨h1, h2⟩ := okN_some hf
            obtain ⟨_, h4⟩ := done_ok (sub_done hs ht) h1
            rw [h2] at h4; rw [h4, ← hx, hy, hz]
          · have hx : y * z = x := by simpa [qop2] using h
            have hf : okN (rMul s t) = some r := by simpa using hf
            obtain ⟨h1, h2⟩ := okN_some hf
            obtain ⟨_, h4⟩ := done_ok (mul_done hs ht) h1
            rw [h2] at h4; rw [h4, ← hx, hy, hz]
          · by_cases hz0 : z = 0
            · simp [qop2, hz0] at h
            · have hx : y / z = x := by simpa [qop2, hz0] using h
              have hf : okN (rDiv s t) = some r := by simpa using hf
              obtain ⟨h1, h2⟩ := okN_some hf
              obtain ⟨_, h4⟩ := done_ok (div_done hs ht (by rw [hz]; exact hz0)) h1
              rw [h2] at h4; rw [h4, ← hx, hy, hz]
        · cases hf
      | none =>
        simp only
        have hop : qv ρ (opE k 0 [a, b]) = some x := by rw [qv_two ρ a b (K2_ne hk), hy, hz]; exact h
        have i0 : ∀ {u : Ex} {n : Int} {q : Rat}, VT u → qv ρ u = some q → isB u n = true → q = (n : Rat) := fun hu hq hi => isB_val hi hu hq
        have e0 : ((0 : Int) : Rat) = 0 := rfl
        have e1 : ((1 : Int) : Rat) = 1 := rfl
        unfold sim2
        rcases hk with rfl | rfl | rfl | rfl
        · rw [if_pos rfl]
          have hx : y + z = x := by simpa [qop2] using h
          split
          · rename_i h1; have := i0 ha hy h1; rw [hz, ← hx, this, e0]; congr 1; grind
          · split
            · rename_i h1; have := i0 hb hz h1; rw [hy, ← hx, this, e0]; congr 1; grind
            · exact hop
        · rw [if_neg (by omega), if_pos rfl]
          have hx : y - z = x := by simpa [qop2] using h
          split
          · rename_i h1; have := i0 hb hz h1; rw [hy, ← hx, this, e0]; congr 1; grind
          · split
            · rename_i h1
              have h2 := i0 ha hy h1
              have hneg : negS b = op1 7 0 b := by
                unfold negS op1
                cases foldN 7 0 [b] with
                | some r => rfl
                | none => simp only [sim1, if_true]
              rw [hneg]
              refine sim1_val (.inl rfl) (by omega) hb ?_
              rw [hz, ← hx, h2, e0]
              show some (-z) = some (0 - z)
              congr 1; grind
            · exact hop
        · rw [if_neg (by omega), if_neg (by omega), if_pos rfl]
          have hx : y * z = x := by simpa [qop2] using h
          split
          · rename_i h1
            rw [qv_num, ← hx, e0]
            rcases Bool.or_eq_true _ _ ▸ h1 with h2 | h2
            · rw [i0 ha hy h2, e0]; congr 1; grind
            · rw [i0 hb hz h2, e0]; congr 1; grind
          · split
            · rename_i h1; have := i0 ha hy h1; rw [hz, ← hx, this, e1]; congr 1; grind
            · split
              · rename_i h1; have := i0 hb hz h1; rw [hy, ← hx, this, e1]; congr 1; grind
              · exact hop
        · rw [if_neg (by omega), if_neg (by omega), if_neg (by omega)]
          by_cases hz0 : z = 0
          · simp [qop2, hz0] at h
          · have hx : y / z = x := by simpa [qop2, hz0] using h
            split
            · rename_i h1
              have h1 : isB a 0 = true := by simp at h1; exact h1.1
              rw [qv_num, ← hx, i0 ha hy h1, e0]; congr 1; grind
            · split
              · rename_i h1; have := i0 hb hz h1; rw [hy, ← hx, this, e1]; congr 1; grind
              · exact hop
theorem sim_val {ρ : Bytes → Rat} {e : Ex} (h : VT e) : ∀ x, qv ρ e = some x → qv ρ (simE e) = some x := by
  induction h with
  | num r _ => rw [sim_rat]; exact fun _ h => h
  | var s _ => rw [sim_var]; exact fun _ h => h
  | un k a hk ha ih =>
    intro x hx
    rw [sim_one a (K1_ne hk)]
    rw [qv_one ρ a (K1_ne hk)] at hx
    cases hy : qv ρ a with
    | none => rw [hy] at hx; simp [qop1] at hx
    | some y =>
      by_cases h7 : k = 7
      · rw [hy] at hx
        exact sim1_val (.inl h7) (by omega) (VT_sim ha) (by rw [ih y hy]; exact hx)
      · rw [hy] at hx
        have h8 : k ≠ 8 := by unfold K1 at hk; omega
        simp [qop1, h7, h8] at hx
  | pow n a h1 h2 ha ih =>
    intro x hx
    rw [sim_one a (by omega)]
    rw [qv_one ρ a (by omega)] at hx
    cases hy : qv ρ a with
    | none => rw [hy] at hx; simp [qop1] at hx
    | some y =>
      rw [hy] at hx
      exact sim1_val (.inr rfl) h1 (VT_sim ha) (by rw [ih y hy]; exact hx)
  | bin k a b hk ha hb ih1 ih2 =>
    intro x hx
    rw [sim_two a b (K2_ne hk)]
    rw [qv_two ρ a b (K2_ne hk)] at hx
    cases hy : qv ρ a with
    | none => rw [hy] at hx; simp [qop2] at hx
    | some y =>
      cases hz : qv ρ b with
      | none => rw [hy, hz] at hx; simp [qop2] at hx
      | some z =>
        rw [hy, hz] at hx
        exact sim2_val hk (VT_sim ha) (VT_sim hb) (by rw [ih1 y hy, ih2 z hz]; exact hx)
/-! ### Nodes of simple forms: no functions and no variables that were not there -/
/-- What holds of all variables and of all kinds. -/
inductive NV (p : Bytes → Prop) : Ex → Prop
  | num (r : Rt) : NV p (ratE r)
  | var (s : Bytes) : p s → NV p (varE s)
  | one (k n : Int) (a : Ex) : 3 ≤ k → k < 9 → NV p a → NV p (opE k n [a])
  | two (k : Int) (a b : Ex) : 3 ≤ k → k < 9 → NV p a → NV p b → NV p (opE k 0 [a, b])
theorem NV_child {p : Bytes → Prop} {x : Ex} (h : NV p (opE 7 0 [x])) : NV p x := by
  generalize he : opE 7 0 [x] = e at h
  cases h with
  | num r => simp [opE, ratE] at he
  | var s _ => simp [opE, varE] at he
  | one k n a _ _ ha => obtain ⟨_, _, h3⟩ := opE_inj he; simp at h3; rw [h3]; exact ha
  | two k a b _ _ _ _ => obtain ⟨_, _, h3⟩ := opE_inj he; simp at h3
theorem NV_op1 {p : Bytes → Prop} {k n : Int} {a : Ex} (h3 : 3 ≤ k) (h9 : k < 9) (hv : VT a) (ha : NV p a) : NV p (op1 k n a) := by
  rcases op1_cases k n a hv with ⟨r, _, e⟩ | e | ⟨_, _, e⟩ | ⟨x, _, _, ha', e⟩ <;> rw [e]
  · exact .num r
  · exact .one k n a h3 h9 ha
  · exact ha
  · rw [ha'] at ha; exact NV_child ha
theorem NV_op2 {p : Bytes → Prop} {k : Int} {a b : Ex} (h3 : 3 ≤ k) (h9 : k < 9) (hv : VT b) (ha : NV p a) (hb : NV p b) : NV p (op2 k a b) := by
  rcases op2_cases k a b with ⟨r, _, e⟩ | e | e | e | ⟨_, e⟩ <;> rw [e]
  · exact .num r
  · exact .two k a b h3 h9 ha hb
  · exact ha
  · exact hb
  · exact NV_op1 (by omega) (by omega) hv hb
theorem NV_sim {p : Bytes → Prop} {e : Ex} (h : VT e) (hn : NV p e) : NV p (simE e) := by
  induction h with
  | num r _ => rw [sim_rat]; exact hn
  | var s _ => rw [sim_var]; exact hn
  | un k a hk ha ih =>
    rw [sim_one a (K1_ne hk)]
    generalize he : opE k 0 [a] = e at hn
    cases hn with
    | num r => simp [opE, ratE] at he
    | var s _ => simp [opE, varE] at he
    | one k' n a' h3 h9 ha' => obtain ⟨e1, _, e3⟩ := opE_inj he; simp at e3; subst e3; exact NV_op1 (by omega) (by omega) (VT_sim ha) (ih ha')
    | two k' a' b' _ _ _ _ => obtain ⟨_, _, e3⟩ := opE_inj he; simp at e3
  | pow n a h1 h2 ha ih =>
    rw [sim_one a (by omega)]
    generalize he : opE 8 n [a] = e at hn
    cases hn with
    | num r => simp [opE, ratE] at he
    | var s _ => simp [opE, varE] at he
    | one k' n' a' h3 h9 ha' => obtain ⟨e1, _, e3⟩ := opE_inj he; simp at e3; subst e3; exact NV_op1 (by omega) (by omega) (VT_sim ha) (ih ha')
    | two k' a' b' _ _ _ _ => obtain ⟨_, _, e3⟩ := opE_inj he; simp at e3
  | bin k a b hk ha hb ih1 ih2 =>
    rw [sim_two a b (K2_ne hk)]
    generalize he : opE k 0 [a, b] = e at hn
    cases hn with
    | num r => simp [opE, ratE] at he
    | var s _ => simp [opE, varE] at he
    | one k' n' a' _ _ _ => obtain ⟨_, _, e3⟩ := opE_inj he; simp at e3
    | two k' a' b' h3 h9 ha' hb' =>
      obtain ⟨e1, _, e3⟩ := opE_inj he
      simp at e3
      obtain ⟨rfl, rfl⟩ := e3
      exact NV_op2 (by omega) (by omega) (VT_sim hb) (ih1 ha') (ih2 hb')
theorem NV_of {p : Bytes → Prop} {e : Ex} (h : VT e) (hr : allE (fun y => decide (y.k < 9)) e = true) (hp : ∀ y ∈ preE e, y.k = 2 → p y.s) : NV p e := by
  induction h with
  | num r _ => exact .num r
  | var s _ => exact .var s (hp (varE s) (by simp [varE, preE, preL]) rfl)
  | un k a hk _ ih =>
    have hr : (decide (k < 9) && (allE (fun y => decide (y.k < 9)) a && true)) = true := hr
    simp only [Bool.and_eq_true, decide_eq_true_eq, Bool.and_true] at hr
    exact .one k 0 a (by unfold K1 at hk; omega) hr.1 (ih hr.2 fun y hy => hp y (by simp only [opE, preE, preL, List.append_nil]; exact List.mem_cons_of_mem _ hy))
  | pow n a h1 h2 _ ih =>
    have hr : (decide ((8 : Int) < 9) && (allE (fun y => decide (y.k < 9)) a && true)) = true := hr
    simp only [Bool.and_eq_true, decide_eq_true_eq, Bool.and_true] at hr
    exact .one 8 n a (by omega) (by omega) (ih hr.2 fun y hy => hp y (by simp only [opE, preE, preL, List.append_nil]; exact List.mem_cons_of_mem _ hy))
  | bin k a b hk _ _ ih1 ih2 =>
    have hr : (decide (k < 9) && (allE (fun y => decide (y.k < 9)) a && (allE (fun y => decide (y.k < 9)) b && true))) = true := hr
    simp only [Bool.and_eq_true, decide_eq_true_eq, Bool.and_true] at hr
    exact .two k a b (by unfold K2 at hk; omega) hr.1 (ih1 hr.2.1 fun y hy => hp y (by simp only [opE, preE, preL, List.append_nil]; exact List.mem_cons_of_mem _ (List.mem_append_left _ hy))) (ih2 hr.2.2 fun y hy => hp y (by simp only [opE, preE, preL, List.append_nil]; exact List.mem_cons_of_mem _ (List.mem_append_right _ hy)))
theorem NV_all {p : Bytes → Prop} {e : Ex} (h : NV p e) : allE (fun y => decide (y.k < 9)) e = true ∧ ∀ y ∈ preE e, y.k = 2 → p y.s := by
  induction h with
  | num r => exact ⟨rfl, fun y hy h2 => by simp [ratE, preE, preL] at hy; subst hy; simp [Ex.k] at h2⟩
  | var s hs => exact ⟨rfl, fun y hy h2 => by simp [varE, preE, preL] at hy; subst hy; exact hs⟩
  | one k n a h3 h9 _ ih =>
    refine ⟨?_, fun y hy h2 => ?_⟩
    · show (decide (k < 9) && (allE (fun y => decide (y.k < 9)) a && true)) = true
      simp [h9, ih.1]
    · simp only [opE, preE, preL, List.append_nil] at hy
      rcases List.mem_cons.1 hy with rfl | hy
      · have : k = 2 := h2
        omega
      · exact ih.2 y hy h2
  | two k a b h3 h9 _ _ ih1 ih2 =>
    refine ⟨?_, fun y hy h2 => ?_⟩
    · show (decide (k < 9) && (allE (fun y => decide (y.k < 9)) a && (allE (fun y => decide (y.k < 9)) b && true))) = true
      simp [h9, ih1.1, ih2.1]
    · simp only [opE, preE, preL, List.append_nil] at hy
      rcases List.mem_cons.1 hy with rfl | hy
      · have : k = 2 := h2
        omega
      · rcases List.mem_append.1 hy with hy | hy
        · exact ih1.2 y hy h2
        · exact ih2.2 y hy h2
end Go.Proofs.Ytmcdnbmamoggoaa

/-
  Simple forms keep exact values.
-/
namespace Go.Proofs.Ytmcdnbmamoggoaa
open Go Go.Sx
theorem mem_namV {l : List Ex} {s : Bytes} : s ∈ namV l ↔ ∃ y ∈ l, y.k = 2 ∧ y.s = s := by
  induction l with
  | nil => simp [namV]
  | cons y l ih =>
    simp only [namV]
    split
    · rename_i h
      simp only [List.mem_cons, ih]
      constructor
      · rintro (h1 | ⟨z, h1, h2⟩)
        · exact ⟨y, .inl rfl, h, h1.symm⟩
        · exact ⟨z, .inr h1, h2⟩
      · rintro ⟨z, rfl | h1, h2, h3⟩
        · exact .inl h3.symm
        · exact .inr ⟨z, h1, h2, h3⟩
    · rename_i h
      simp only [List.mem_cons, ih]
      constructor
      · rintro ⟨z, h1, h2⟩; exact ⟨z, .inr h1, h2⟩
      · rintro ⟨z, rfl | h1, h2, h3⟩
        · exact absurd h2 h
        · exact ⟨z, h1, h2, h3⟩
theorem mem_nmE {e : Ex} (h : okT e = true) {s : Bytes} : s ∈ nmE e ↔ ∃ y ∈ preE e, y.k = 2 ∧ y.s = s := by
  unfold nmE
  rw [mem_compact]
  unfold srtS
  rw [List.mem_mergeSort, mem_namV]
  simp [visE, h]
theorem nm_all {e : Ex} (h : okT e = true) (es : Env0) : (nmE e).all (hasN es) = true ↔ ∀ y ∈ preE e, y.k = 2 → hasN es y.s = true := by
  rw [List.all_eq_true]
  constructor
  · intro h1 y hy h2; exact h1 y.s ((mem_nmE h).2 ⟨y, hy, h2, rfl⟩)
  · intro h1 s hs
    obtain ⟨y, hy, h2, rfl⟩ := (mem_nmE h).1 hs
    exact h1 y hy h2
def EnvA (es : Env0) : Prop := ∀ p ∈ es, rOk p.2 = true
theorem mem_mput {n : Bytes} {r : Rt} : ∀ {es : Env0} {p : Bytes × Rt}, p ∈ mput .str n r es → p.2 = r ∨ p ∈ es
  | [], p, h => by
    simp only [mput, List.mem_singleton] at h
    exact .inl (by rw [h])
  | (y, v) :: l, p, h => by
    simp only [mput] at h
    cases hk : keyB .str n y with
    | true =>
      simp only [hk, cond_true] at h
      rcases List.mem_cons.1 h with h1 | h1
      · exact .inl (by rw [h1])
      · exact .inr (List.mem_cons_of_mem _ h1)
    | false =>
      simp only [hk, cond_false] at h
      rcases List.mem_cons.1 h with h1 | h1
      · exact .inr (by rw [h1]; exact List.mem_cons_self)
      · exact (mem_mput h1).imp id (List.mem_cons_of_mem _)
theorem mget_mem {s : Bytes} {z : Rt} : ∀ {es : Env0}, mhas .str s es = true → ∃ p ∈ es, mget .str s z es = p.2
  | [], h => by simp [mhas] at h
  | (y, v) :: l, h => by
    cases hk : keyB .str s y with
    | true => exact ⟨(y, v), List.mem_cons_self, by simp [mget, hk]⟩
    | false =>
      have h : mhas .str s l = true := by simpa [mhas, hk] using h
      obtain ⟨p, h1, h2⟩ := mget_mem h (z := z)
      exact ⟨p, List.mem_cons_of_mem _ h1, by simpa [mget, hk] using h2⟩
theorem envA_L : ∀ {ns : List Bytes} {rs : List Rt} {es : Env0}, rs.all rOk = true → EnvA es → EnvA (envL ns rs es)
  | [], _, _, _, h => h
  | _ :: _, [], _, _, h => h
  | n :: ns, r :: rs, es, hr, h => by
    simp only [List.all_cons, Bool.and_eq_true] at hr
    exact envA_L (es := mput .str n r es) hr.2 fun p hp => (mem_mput hp).elim (fun e => by rw [e]; exact hr.1) (h p)
theorem ex_keeps {e : Ex} {ns : List Bytes} {rs : List Rt} {r : Rt} (ho : okT e = true) (h : exF e ns rs = (r, 0)) : exF (simE e) ns rs = (r, 0) ∨ ∃ z, exF (simE e) ns rs = (z, 9) := by
  have hv := okT_VT ho
  have hos := ok_sim ho
  unfold exF at h
  split at h
  · rename_i hc
    obtain ⟨hc1, hc2, hc3, hc4, hc5⟩ := hc
    have hr := (ratB_ok hc3).2
    generalize hes : envL ns rs [] = es at *
    have hA : EnvA es := by rw [← hes]; exact envA_L hc4 (fun p hp => by simp at hp)
    have hvars := (nm_all ho es).1 hc5
    have hok : ∀ s, hasN es s = true → rOk (mget .str s ⟨0, 0⟩ es) = true := fun s hs => by
      obtain ⟨p, h1, h2⟩ := mget_mem (z := ⟨0, 0⟩) hs
      rw [h2]; exact hA p h1
    obtain ⟨sr, sv⟩ := NV_all (NV_sim hv (NV_of (p := fun s => hasN es s = true) hv hr hvars))
    have x1 := xc_val es hv hr fun y hy h2 => hok _ (hvars y hy h2)
    have x2 := xc_val es (VT_sim hv) sr fun y hy h2 => hok _ (sv y hy h2)
    have hcs : (ns.length = rs.length ∧ ns.length ≤ 200) ∧ (envL ns rs []).length = rs.length ∧ ratB (simE e) = true ∧ rs.all rOk = true ∧ (nmE (simE e)).all (hasN (envL ns rs [])) = true := by
      rw [hes]
      exact ⟨hc1, hc2, by unfold ratB; rw [hos, sr]; rfl, hc4, (nm_all hos es).2 sv⟩
    unfold exF
    rw [if_pos hcs, hes]
    split at h
    · rename_i h0
      obtain ⟨x, hx⟩ := x1.2 h0
      obtain ⟨d1, d2⟩ := done_ok (x1.1 x hx) h0
      have d3 := x2.1 x (sim_val hv x hx)
      rw [h] at d1 d2
      rcases d3 with ⟨e1, e2, e3⟩ | e1
      · left
        rw [if_pos e1]
        have : (xcE es (simE e)).1 = r := rv_inj e2 d1 (by rw [e3, d2])
        rw [← this, ← e1]
      · right
        rw [if_neg (by omega), e1]
        exact ⟨_, rfl⟩
    · rename_i h0
      simp only [Prod.mk.injEq] at h
      exact absurd h.2 h0
  · simp at h
end Go.Proofs.Ytmcdnbmamoggoaa

/-
  Values and derivatives: what computing with both gives is the value of the derivative.
-/
namespace Go.Proofs.Ytmcdnbmamoggoaa
open Go Go.Sx
abbrev D2 := Rat × Rat
def qd1 (k n : Int) : Option D2 → Option D2
  | none => none
  | some (x, d) => if k = 7 then some (-x, -d) else if k = 8 then some (x ^ n.toNat, (n : Rat) * x ^ (n - 1).toNat * d) else none
def qd2 (k : Int) : Option D2 → Option D2 → Option D2
  | some (x, d), some (y, f) => if k = 3 then some (x + y, d + f) else if k = 4 then some (x - y, d - f) else if k = 5 then some (x * y, d * y + x * f)
      else if y = 0 then none else some (x / y, (d * y - x * f) / (y * y))
  | _, _ => none
def qdO (k n : Int) : List (Option D2) → Option D2
  | [a] => qd1 k n a
  | [a, b] => qd2 k a b
  | _ => none
mutual
def qd (ρ : Bytes → Rat) (nm : Bytes) : Ex → Option D2
  | .mk k q s p l => if k = 1 then some (rv q, 0) else if k = 2 then some (ρ s, if s = nm then 1 else 0) else qdO k p (qdL ρ nm l)
def qdL (ρ : Bytes → Rat) (nm : Bytes) : List Ex → List (Option D2)
  | [] => []
  | x :: l => qd ρ nm x :: qdL ρ nm l
end
section
variable (ρ : Bytes → Rat) (nm : Bytes)
theorem qd_rat (r : Rt) : qd ρ nm (ratE r) = some (rv r, 0) := by simp [ratE, qd]
theorem qd_num (n : Int) : qd ρ nm (numE n) = some ((n : Rat), 0) := by simp [numE, qd, rv_one]
theorem qd_var (s : Bytes) : qd ρ nm (varE s) = some (ρ s, if s = nm then 1 else 0) := by simp [varE, qd]
theorem qd_one {k n : Int} (a : Ex) (h : k ≠ 1 ∧ k ≠ 2) : qd ρ nm (opE k n [a]) = qd1 k n (qd ρ nm a) := by simp [opE, qd, qdL, qdO, h]
theorem qd_two {k : Int} (a b : Ex) (h : k ≠ 1 ∧ k ≠ 2) : qd ρ nm (opE k 0 [a, b]) = qd2 k (qd ρ nm a) (qd ρ nm b) := by simp [opE, qd, qdL, qdO, h]
end
variable {ρ : Bytes → Rat} {nm : Bytes}
theorem qd1_fst {k n : Int} {u : Option D2} {v : Option Rat} {x d : Rat} (hu : ∀ y f, u = some (y, f) → v = some y) (h : qd1 k n u = some (x, d)) : qop1 k n v = some x := by
  obtain _ | ⟨y, f⟩ := u
  · simp [qd1] at h
  rw [hu y f rfl]
  simp only [qd1] at h
  simp only [qop1]
  split at h
  · rename_i h7; rw [if_pos h7]; simp at h; rw [h.1]
  · rename_i h7
    rw [if_neg h7]
    split at h
    · rename_i h8; rw [if_pos h8]; simp at h; rw [h.1]
    · cases h
theorem qd2_fst {k : Int} {u w : Option D2} {v z : Option Rat} {x d : Rat} (hu : ∀ y f, u = some (y, f) → v = some y) (hw : ∀ y f, w = some (y, f) → z = some y) (h : qd2 k u w = some (x, d)) : qop2 k v z = some x := by
  obtain _ | ⟨y, f⟩ := u
  · simp [qd2] at h
  obtain _ | ⟨y', f'⟩ := w
  · simp [qd2] at h
  rw [hu y f rfl, hw y' f' rfl]
  simp only [qd2] at h
  simp only [qop2]
  split at h
  · rename_i h3; rw [if_pos h3]; simp at h; rw [h.1]
  · rename_i h3
    rw [if_neg h3]
    split at h
    · rename_i h4; rw [if_pos h4]; simp at h; rw [h.1]
    · rename_i h4
      rw [if_neg h4]
      split at h
      · rename_i h5; rw [if_pos h5]; simp at h; rw [h.1]
      · rename_i h5
        rw [if_neg h5]
        split at h
        · cases h
        · rename_i h6; rw [if_neg h6]; simp at h; rw [h.1]
theorem qd_fst {e : Ex} (h : VT e) : ∀ x d, qd ρ nm e = some (x, d) → qv ρ e = some x := by
  induction h with
  | num r _ => intro x d h; rw [qd_rat] at h; rw [qv_rat]; simp at h; rw [h.1]
  | var s _ => intro x d h; rw [qd_var] at h; rw [qv_var]; simp at h; rw [h.1]
  | un k a hk _ ih => intro x d h; rw [qd_one _ _ a (K1_ne hk)] at h; rw [qv_one ρ a (K1_ne hk)]; exact qd1_fst ih h
  | pow n a _ _ _ ih => intro x d h; rw [qd_one _ _ a (by omega)] at h; rw [qv_one ρ a (by omega)]; exact qd1_fst ih h
  | bin k a b hk _ _ ih1 ih2 => intro x d h; rw [qd_two _ _ a b (K2_ne hk)] at h; rw [qv_two ρ a b (K2_ne hk)]; exact qd2_fst ih1 ih2 h
theorem isB_qd {a : Ex} {n : Int} (h : isB a n = true) (ha : VT a) : qd ρ nm a = some ((n : Rat), 0) := by
  have h' := h
  simp only [isB, Bool.and_eq_true, beq_iff_eq] at h
  obtain ⟨r, _, rfl⟩ := VT_num ha h.1
  rw [qd_rat, ← isB_val (ρ := ρ) h' ha (qv_rat ρ r)]
theorem fold_kinds {k n : Int} {l : List Ex} {r : Rt} (h : foldN k n l = some r) : ∀ a ∈ l, a.k = 1 := by
  unfold foldN at h
  split at h
  · rename_i hall
    intro a ha
    have := List.all_eq_true.1 hall a ha
    simpa using this
  · cases h
/-- The first parts are known from V10. -/
theorem qd_some_fst {e : Ex} {x d : Rat} (h : ∃ z, qd ρ nm e = some (z, d)) (hv : VT e) (h2 : qv ρ e = some x) : qd ρ nm e = some (x, d) := by
  obtain ⟨z, hz⟩ := h
  have := qd_fst hv _ _ hz
  rw [h2] at this
  rw [hz, Option.some.inj this]
theorem sim1_qd {k n : Int} {a : Ex} (hk : k = 7 ∨ k = 8) (hn : 0 ≤ n) (hva : VT a) {p : D2} (h : qd1 k n (qd ρ nm a) = some p) : qd ρ nm (op1 k n a) = some p := by
  obtain ⟨x, d⟩ := p
  have hfst : qv ρ (op1 k n a) = some x := sim1_val hk hn hva (qd1_fst (fun y f hy => qd_fst hva y f hy) h)
  cases hy : qd ρ nm a with
  | none => rw [hy] at h; simp [qd1] at h
  | some p =>
    obtain ⟨y, f⟩ := p
    rw [hy] at h
    unfold op1 at hfst ⊢
    cases hf : foldN k n [a] with
    | some r =>
      rw [hf] at hfst
      simp only at hfst ⊢
      rw [qv_rat] at hfst
      rw [qd_rat, Option.some.inj hfst]
      obtain ⟨s, _, rfl⟩ := VT_num hva (fold_kinds hf a (by simp))
      rw [qd_rat] at hy
      have hf0 : f = 0 := by simp at hy; exact hy.2.symm
      subst hf0
      rcases hk with rfl | rfl
      · simp [qd1] at h; rw [← h.2]
      · simp [qd1] at h; rw [← h.2]
    | none =>
      simp only
      have hop : qd ρ nm (opE k n [a]) = some (x, d) := by rw [qd_one _ _ a (by omega), hy]; exact h
      unfold sim1
      rcases hk with rfl | rfl
      · rw [if_pos rfl]
        split
        · rename_i h7
          cases hva with
          | num r hr => simp [ratE, Ex.k] at h7
          | var s hs => simp [varE, Ex.k] at h7
          | pow n a _ _ _ => simp [opE, Ex.k] at h7
          | bin k a b h1 _ _ => simp [opE, Ex.k] at h7; unfold K2 at h1; omega
          | un k z h1 hz =>
            have h7 : k = 7 := by simpa [opE, Ex.k] using h7
            subst h7
            show qd ρ nm z = some (x, d)
            rw [qd_one _ _ z (by omega)] at hy
            rcases hz' : qd ρ nm z with _ | ⟨u, g⟩
            · rw [hz'] at hy; simp [qd1] at hy
            · rw [hz'] at hy
              simp only [qd1, if_true, Option.some.injEq, Prod.mk.injEq] at hy h
              rw [← h.1, ← h.2, ← hy.1, ← hy.2]
              simp only [Option.some.injEq, Prod.mk.injEq]
              constructor <;> grind
        · exact hop
      · rw [if_neg (by omega), if_pos rfl]
        have h : y ^ n.toNat = x ∧ (n : Rat) * y ^ (n - 1).toNat * f = d := by simpa [qd1] using h
        split
        · rename_i h0
          subst h0
          rw [qd_num, ← h.1, ← h.2]
          simp only [Int.toNat_zero, Rat.pow_zero, Option.some.injEq, Prod.mk.injEq]
          refine ⟨rfl, ?_⟩
          have : ((0 : Int) : Rat) = 0 := rfl
          rw [this]; grind
        · split
          · rename_i h1
            subst h1
            rw [hy, ← h.1, ← h.2]
            have e1 : y ^ (1 : Int).toNat = y := by show y ^ 1 = y; grind
            have e2 : y ^ ((1 : Int) - 1).toNat = 1 := by show y ^ 0 = 1; grind
            have e3 : ((1 : Int) : Rat) = 1 := rfl
            rw [e1, e2, e3]
            simp only [Option.some.injEq, Prod.mk.injEq]
            constructor <;> grind
          · exact hop
theorem sim2_qd {k : Int} {a b : Ex} (hk : K2 k) (ha : VT a) (hb : VT b) {p : D2} (h : qd2 k (qd ρ nm a) (qd ρ nm b) = some p) : qd ρ nm (op2 k a b) = some p := by
  obtain ⟨x, d⟩ := p
  have hfst : qv ρ (op2 k a b) = some x := sim2_val hk ha hb (qd2_fst (fun y f hy => qd_fst ha y f hy) (fun y f hy => qd_fst hb y f hy) h)
  rcases hy : qd ρ nm a with _ | ⟨y, f⟩
  · rw [hy] at h; simp [qd2] at h
  rcases hz : qd ρ nm b with _ | ⟨z, g⟩
  · rw [hy, hz] at h; simp [qd2] at h
  rw [hy, hz] at h
  unfold op2 at hfst ⊢
  cases hf : foldN k 0 [a, b] with
  | some r =>
    rw [hf] at hfst
    simp only at hfst ⊢
    rw [qv_rat] at hfst
    rw [qd_rat, Option.some.inj hfst]
    obtain ⟨s, _, rfl⟩ := VT_num ha (fold_kinds hf a (by simp))
    obtain ⟨t, _, rfl⟩ := VT_num hb (fold_kinds hf b (by simp))
    rw [qd_rat] at hy hz
    have hf0 : f = 0 := by simp at hy; exact hy.2.symm
    have hg0 : g = 0 := by simp at hz; exact hz.2.symm
    subst hf0; subst hg0
    simp only [qd2] at h
    simp only [Option.some.injEq, Prod.mk.injEq, true_and]
    split at h
    · simp only [Option.some.injEq, Prod.mk.injEq] at h; rw [← h.2]; grind
    · split at h
      · simp only [Option.some.injEq, Prod.mk.injEq] at h; rw [← h.2]; grind
      · split at h
        · simp only [Option.some.injEq, Prod.mk.injEq] at h; rw [← h.2]; grind
        · split at h
          · cases h
          · simp only [Option.some.injEq, Prod.mk.injEq] at h; rw [← h.2]; grind
  | none =>
    simp only
    have hop : qd ρ nm (opE k 0 [a, b]) = some (x, d) := by rw [qd_two _ _ a b (K2_ne hk), hy, hz]; exact h
    have i0 : ∀ {u : Ex} {n : Int} {q q' : Rat}, VT u → qd ρ nm u = some (q, q') → isB u n = true → q = (n : Rat) ∧ q' = 0 := fun hu hq hi => by
      have := isB_qd (ρ := ρ) (nm := nm) hi hu
      rw [hq] at this; simpa using this
    have e0 : ((0 : Int) : Rat) = 0 := rfl
    have e1 : ((1 : Int) : Rat) = 1 := rfl
    unfold sim2
    rcases hk with rfl | rfl | rfl | rfl
    · rw [if_pos rfl]
      have hx : y + z = x ∧ f + g = d := by simpa [qd2] using h
      split
      · rename_i h1; obtain ⟨t1, t2⟩ := i0 ha hy h1; rw [hz, ← hx.1, ← hx.2, t1, t2, e0]; simp only [Option.some.injEq, Prod.mk.injEq]; constructor <;> grind
      · split
        · rename_i h1; obtain ⟨t1, t2⟩ := i0 hb hz h1; rw [hy, ← hx.1, ← hx.2, t1, t2, e0]; simp only [Option.some.injEq, Prod.mk.injEq]; constructor <;> grind
        · exact hop
    · rw [if_neg (by omega), if_pos rfl]
      have hx : y - z = x ∧ f - g = d := by simpa [qd2] using h
      split
      · rename_i h1; obtain ⟨t1, t2⟩ := i0 hb hz h1; rw [hy, ← hx.1, ← hx.2, t1, t2, e0]; simp only [Option.some.injEq, Prod.mk.injEq]; constructor <;> grind
      · split
        · rename_i h1
          obtain ⟨t1, t2⟩ := i0 ha hy h1
          rw [negS_eq]
          refine sim1_qd (.inl rfl) (by omega) hb ?_
          rw [hz, ← hx.1, ← hx.2, t1, t2, e0]
          show some (-z, -g) = some (0 - z, 0 - g)
          simp only [Option.some.injEq, Prod.mk.injEq]; constructor <;> grind
        · exact hop
    · rw [if_neg (by omega), if_neg (by omega), if_pos rfl]
      have hx : y * z = x ∧ f * z + y * g = d := by simpa [qd2] using h
      split
      · rename_i h1
        rw [qd_num, ← hx.1, ← hx.2, e0]
        simp only [Option.some.injEq, Prod.mk.injEq]
        rcases Bool.or_eq_true _ _ ▸ h1 with h2 | h2
        · obtain ⟨t1, t2⟩ := i0 ha hy h2; rw [t1, t2, e0]; constructor <;> grind
        · obtain ⟨t1, t2⟩ := i0 hb hz h2; rw [t1, t2, e0]; constructor <;> grind
      · split
        · rename_i h1; obtain ⟨t1, t2⟩ := i0 ha hy h1; rw [hz, ← hx.1, ← hx.2, t1, t2, e1]; simp only [Option.some.injEq, Prod.mk.injEq]; constructor <;> grind
        · split
          · rename_i h1; obtain ⟨t1, t2⟩ := i0 hb hz h1; rw [hy, ← hx.1, ← hx.2, t1, t2, e1]; simp only [Option.some.injEq, Prod.mk.injEq]; constructor <;> grind
          · exact hop
    · rw [if_neg (by omega), if_neg (by omega), if_neg (by omega)]
      by_cases hz0 : z = 0
      · simp [qd2, hz0] at h
      · have hx : y / z = x ∧ (f * z - y * g) / (z * z) = d := by simpa [qd2, hz0] using h
        split
        · rename_i h1
          have h1 : isB a 0 = true := by simp at h1; exact h1.1
          obtain ⟨t1, t2⟩ := i0 ha hy h1
          rw [qd_num, ← hx.1, ← hx.2, t1, t2, e0]; simp only [Option.some.injEq, Prod.mk.injEq]; constructor <;> grind
        · split
          · rename_i h1; obtain ⟨t1, t2⟩ := i0 hb hz h1; rw [hy, ← hx.1, ← hx.2, t1, t2, e1]; simp only [Option.some.injEq, Prod.mk.injEq]; constructor <;> grind
          · exact hop
theorem qd1_none {k n : Int} (hk : k ≠ 7 ∧ k ≠ 8) (u : Option D2) : qd1 k n u = none := by
  obtain _ | ⟨y, f⟩ := u
  · rfl
  · simp [qd1, hk]
theorem sim_qd {e : Ex} (h : VT e) : ∀ p, qd ρ nm e = some p → qd ρ nm (simE e) = some p := by
  induction h with
  | num r _ => rw [sim_rat]; exact fun _ h => h
  | var s _ => rw [sim_var]; exact fun _ h => h
  | un k a hk ha ih =>
    intro p hp
    rw [sim_one a (K1_ne hk)]
    rw [qd_one _ _ a (K1_ne hk)] at hp
    by_cases h7 : k = 7
    · cases hy : qd ρ nm a with
      | none => rw [hy] at hp; simp [qd1] at hp
      | some y => rw [hy] at hp; exact sim1_qd (.inl h7) (by omega) (VT_sim ha) (by rw [ih y hy]; exact hp)
    · rw [qd1_none ⟨h7, by unfold K1 at hk; omega⟩] at hp; cases hp
  | pow n a h1 h2 ha ih =>
    intro p hp
    rw [sim_one a (by omega)]
    rw [qd_one _ _ a (by omega)] at hp
    cases hy : qd ρ nm a with
    | none => rw [hy] at hp; simp [qd1] at hp
    | some y => rw [hy] at hp; exact sim1_qd (.inr rfl) h1 (VT_sim ha) (by rw [ih y hy]; exact hp)
  | bin k a b hk ha hb ih1 ih2 =>
    intro p hp
    rw [sim_two a b (K2_ne hk)]
    rw [qd_two _ _ a b (K2_ne hk)] at hp
    cases hy : qd ρ nm a with
    | none => rw [hy] at hp; simp [qd2] at hp
    | some y =>
      cases hz : qd ρ nm b with
      | none => rw [hy, hz] at hp; obtain ⟨y1, y2⟩ := y; simp [qd2] at hp
      | some z => rw [hy, hz] at hp; exact sim2_qd hk (VT_sim ha) (VT_sim hb) (by rw [ih1 y hy, ih2 z hz]; exact hp)
/-! ### The value of the derivative -/
theorem qq2 {k : Int} {a b : Ex} {x y z : Rat} (hk : K2 k) (ha : VT a) (hb : VT b) (h1 : qv ρ a = some x) (h2 : qv ρ b = some y) (h : qop2 k (some x) (some y) = some z) : qv ρ (op2 k a b) = some z :=
  sim2_val hk ha hb (by rw [h1, h2]; exact h)
theorem qq1 {k n : Int} {a : Ex} {x z : Rat} (hk : k = 7 ∨ k = 8) (hn : 0 ≤ n) (ha : VT a) (h1 : qv ρ a = some x) (h : qop1 k n (some x) = some z) : qv ρ (op1 k n a) = some z :=
  sim1_val hk hn ha (by rw [h1]; exact h)
theorem kk3 : K2 3 := by unfold K2; omega
theorem kk4 : K2 4 := by unfold K2; omega
theorem kk5 : K2 5 := by unfold K2; omega
theorem kk6 : K2 6 := by unfold K2; omega
theorem diff_qv {e : Ex} (h : VT e) : ∀ x d, qd ρ nm e = some (x, d) → qv ρ (diffE nm e) = some d := by
  induction h with
  | num r _ => intro x d h; rw [qd_rat] at h; rw [diff_rat, qv_num]; simp at h; rw [← h.2]; rfl
  | var s _ =>
    intro x d h
    rw [qd_var] at h; rw [diff_var]
    simp only [Option.some.injEq, Prod.mk.injEq] at h
    rw [← h.2]
    split
    · rw [qv_num]; rfl
    · rw [qv_num]; rfl
  | un k a hk ha ih =>
    intro x d h
    rw [qd_one _ _ a (K1_ne hk)] at h
    rw [diff_one nm a (K1_ne hk)]
    by_cases h7 : k = 7
    · subst h7
      rcases hy : qd ρ nm a with _ | ⟨y, f⟩
      · rw [hy] at h; simp [qd1] at h
      · rw [hy] at h
        have h : -y = x ∧ -f = d := by simpa [qd1] using h
        unfold dif1
        rw [if_pos rfl]
        exact qq1 (.inl rfl) (by omega) (VT_diff nm ha) (ih y f hy) (by rw [← h.2]; simp [qop1])
    · rw [qd1_none ⟨h7, by unfold K1 at hk; omega⟩] at h; cases h
  | pow n a h1 h2 ha ih =>
    intro x d h
    rw [qd_one _ _ a (by omega)] at h
    rw [diff_one nm a (by omega)]
    rcases hy : qd ρ nm a with _ | ⟨y, f⟩
    · rw [hy] at h; simp [qd1] at h
    rw [hy] at h
    have h : y ^ n.toNat = x ∧ (n : Rat) * y ^ (n - 1).toNat * f = d := by simpa [qd1] using h
    unfold dif1
    rw [if_neg (by omega), if_pos rfl]
    split
    · rename_i h0
      subst h0
      rw [qv_num, ← h.2]
      have : ((0 : Int) : Rat) = 0 := rfl
      rw [this]; congr 1; grind
    · have v1 : VT (op1 8 (n - 1) a) := VT_op1 (.inr ⟨rfl, by omega, by omega⟩) ha
      have v0 : VT (numE n) := VT_numE (by omega)
      have e1 : qv ρ (op1 8 (n - 1) a) = some (y ^ (n - 1).toNat) := qq1 (.inr rfl) (by omega) ha (qd_fst ha _ _ hy) (by simp [qop1])
      have e2 : qv ρ (op2 5 (numE n) (op1 8 (n - 1) a)) = some ((n : Rat) * y ^ (n - 1).toNat) := qq2 kk5 v0 v1 (qv_num ρ n) e1 (by simp [qop2])
      exact qq2 kk5 (VT_op2 kk5 v0 v1) (VT_diff nm ha) e2 (ih y f hy) (by rw [← h.2]; simp [qop2])
  | bin k a b hk ha hb ih1 ih2 =>
    intro x d h
    rw [qd_two _ _ a b (K2_ne hk)] at h
    rw [diff_two nm a b (K2_ne hk)]
    rcases hy : qd ρ nm a with _ | ⟨y, f⟩
    · rw [hy] at h; simp [qd2] at h
    rcases hz : qd ρ nm b with _ | ⟨z, g⟩
    · rw [hy, hz] at h; simp [qd2] at h
    rw [hy, hz] at h
    have j1 := ih1 y f hy
    have j2 := ih2 z g hz
    have i1 := qd_fst ha _ _ hy
    have i2 := qd_fst hb _ _ hz
    have va := VT_diff nm ha
    have vb := VT_diff nm hb
    unfold dif2
    rcases hk with rfl | rfl | rfl | rfl
    · have h : y + z = x ∧ f + g = d := by simpa [qd2] using h
      rw [if_neg (by omega), if_neg (by omega)]
      exact qq2 kk3 va vb j1 j2 (by rw [← h.2]; simp [qop2])
    · have h : y - z = x ∧ f - g = d := by simpa [qd2] using h
      rw [if_neg (by omega), if_neg (by omega)]
      exact qq2 kk4 va vb j1 j2 (by rw [← h.2]; simp [qop2])
    · have h : y * z = x ∧ f * z + y * g = d := by simpa [qd2] using h
      rw [if_pos rfl]
      exact qq2 kk3 (VT_op2 kk5 va hb) (VT_op2 kk5 ha vb) (qq2 kk5 va hb j1 i2 (z := f * z) (by simp [qop2])) (qq2 kk5 ha vb i1 j2 (z := y * g) (by simp [qop2])) (by rw [← h.2]; simp [qop2])
    · by_cases hz0 : z = 0
      · simp [qd2, hz0] at h
      have h : y / z = x ∧ (f * z - y * g) / (z * z) = d := by simpa [qd2, hz0] using h
      rw [if_neg (by omega), if_pos rfl]
      split
      · rename_i hb1
        obtain ⟨s, _, rfl⟩ := VT_num hb hb1
        rw [qd_rat] at hz
        have hg0 : g = 0 := by simp at hz; exact hz.2.symm
        subst hg0
        refine qq2 kk6 va hb j1 i2 ?_
        rw [← h.2]
        simp only [qop2, hz0, if_false]
        have e : f / z = (f * z - y * 0) / (z * z) := by grind
        simp [e]
      · have c1 := qq2 kk5 va hb j1 i2 (z := f * z) (by simp [qop2])
        have c2 := qq2 kk5 ha vb i1 j2 (z := y * g) (by simp [qop2])
        have c3 := qq2 kk4 (VT_op2 kk5 va hb) (VT_op2 kk5 ha vb) c1 c2 (z := f * z - y * g) (by simp [qop2])
        have c4 := qq1 (k := 8) (n := 2) (.inr rfl) (by omega) hb i2 (z := z ^ 2) (by simp [qop1])
        refine qq2 kk6 (VT_op2 kk4 (VT_op2 kk5 va hb) (VT_op2 kk5 ha vb)) (VT_op1 (.inr ⟨rfl, by omega, by omega⟩) hb) c3 c4 ?_
        rw [← h.2]
        have e0 : z ^ 2 ≠ 0 := by intro h2; apply hz0; grind
        have e : z ^ 2 = z * z := by grind
        rw [e] at e0
        simp [qop2, e, e0]
/-! ### The nodes of derivatives -/
theorem NV_diff {p : Bytes → Prop} {e : Ex} (h : VT e) (hn : NV p e) : NV p (diffE nm e) := by
  have n0 : ∀ n : Int, NV p (numE n) := fun n => NV.num ⟨n, 1⟩
  induction h with
  | num r _ => rw [diff_rat]; exact n0 0
  | var s _ => rw [diff_var]; split <;> exact n0 _
  | un k a hk ha ih =>
    rw [diff_one nm a (K1_ne hk)]
    generalize he : opE k 0 [a] = e at hn
    cases hn with
    | num r => simp [opE, ratE] at he
    | var s _ => simp [opE, varE] at he
    | one k' n a' h3 h9 ha' =>
      obtain ⟨e1, _, e3⟩ := opE_inj he; simp at e3; subst e3; subst e1
      have h7 : k = 7 := by unfold K1 at hk; omega
      unfold dif1
      rw [if_pos h7]
      exact NV_op1 (by omega) (by omega) (VT_diff nm ha) (ih ha')
    | two k' a' b' _ _ _ _ => obtain ⟨_, _, e3⟩ := opE_inj he; simp at e3
  | pow n a h1 h2 ha ih =>
    rw [diff_one nm a (by omega)]
    generalize he : opE 8 n [a] = e at hn
    cases hn with
    | num r => simp [opE, ratE] at he
    | var s _ => simp [opE, varE] at he
    | one k' n' a' h3 h9 ha' =>
      obtain ⟨e1, _, e3⟩ := opE_inj he; simp at e3; subst e3
      unfold dif1
      rw [if_neg (by omega), if_pos rfl]
      split
      · exact n0 0
      · exact NV_op2 (by omega) (by omega) (VT_diff nm ha) (NV_op2 (by omega) (by omega) (VT_op1 (.inr ⟨rfl, by omega, by omega⟩) ha) (n0 n) (NV_op1 (by omega) (by omega) ha ha')) (ih ha')
    | two k' a' b' _ _ _ _ => obtain ⟨_, _, e3⟩ := opE_inj he; simp at e3
  | bin k a b hk ha hb ih1 ih2 =>
    rw [diff_two nm a b (K2_ne hk)]
    generalize he : opE k 0 [a, b] = e at hn
    cases hn with
    | num r => simp [opE, ratE] at he
    | var s _ => simp [opE, varE] at he
    | one k' n' a' _ _ _ => obtain ⟨_, _, e3⟩ := opE_inj he; simp at e3
    | two k' a' b' h3 h9 ha' hb' =>
      obtain ⟨e1, _, e3⟩ := opE_inj he
      simp at e3
      obtain ⟨rfl, rfl⟩ := e3
      have j1 := ih1 ha'
      have j2 := ih2 hb'
      have va := VT_diff nm ha
      have vb := VT_diff nm hb
      have m1 := NV_op2 (k := 5) (by omega) (by omega) hb j1 hb'
      have m2 := NV_op2 (k := 5) (by omega) (by omega) vb ha' j2
      unfold dif2
      split
      · exact NV_op2 (by omega) (by omega) (VT_op2 kk5 ha vb) m1 m2
      · split
        · split
          · exact NV_op2 (by omega) (by omega) hb j1 hb'
          · exact NV_op2 (by omega) (by omega) (VT_op1 (.inr ⟨rfl, by omega, by omega⟩) hb) (NV_op2 (by omega) (by omega) (VT_op2 kk5 ha vb) m1 m2) (NV_op1 (by omega) (by omega) hb hb')
        · unfold K2 at hk
          exact NV_op2 (by omega) (by omega) vb j1 j2
end Go.Proofs.Ytmcdnbmamoggoaa

/-
  A polynomial is the sum of its derivatives, divided by factorials: plain functions.
-/
namespace Go.Proofs.Ytmcdnbmamoggoaa
open Go Go.Sx
/-! ### Polynomials as lists of coefficients -/
def ev : List Rat → Rat → Rat
  | [], _ => 0
  | c :: P, x => c + x * ev P x
def dv : List Rat → Rat → Rat
  | [], _ => 0
  | _ :: P, x => ev P x + x * dv P x
def pAdd : List Rat → List Rat → List Rat
  | [], Q => Q
  | P, [] => P
  | c :: P, d :: Q => (c + d) :: pAdd P Q
def pSc (a : Rat) : List Rat → List Rat
  | [] => []
  | c :: P => (a * c) :: pSc a P
def pMul : List Rat → List Rat → List Rat
  | [], _ => []
  | [c], Q => pSc c Q
  | c :: P, Q => pAdd (pSc c Q) (0 :: pMul P Q)
def pPow (P : List Rat) : Nat → List Rat
  | 0 => [1]
  | n + 1 => pMul (pPow P n) P
def pD : List Rat → List Rat
  | [] => []
  | [_] => []
  | _ :: P => pAdd P (0 :: pD P)
theorem ev_add (x : Rat) : ∀ P Q, ev (pAdd P Q) x = ev P x + ev Q x
  | [], Q => by simp only [pAdd, ev]; grind
  | c :: P, [] => by simp only [pAdd, ev]; grind
  | c :: P, d :: Q => by simp only [pAdd, ev, ev_add x P Q]; grind
theorem dv_add (x : Rat) : ∀ P Q, dv (pAdd P Q) x = dv P x + dv Q x
  | [], Q => by simp only [pAdd, dv]; grind
  | c :: P, [] => by simp only [pAdd, dv]; grind
  | c :: P, d :: Q => by simp only [pAdd, dv, dv_add x P Q, ev_add]; grind
theorem ev_sc (a x : Rat) : ∀ P, ev (pSc a P) x = a * ev P x
  | [] => by simp [pSc, ev]
  | c :: P => by simp only [pSc, ev, ev_sc a x P]; grind
theorem dv_sc (a x : Rat) : ∀ P, dv (pSc a P) x = a * dv P x
  | [] => by simp [pSc, dv]
  | c :: P => by simp only [pSc, dv, ev_sc a x P, dv_sc a x P]; grind
theorem ev_mul (x : Rat) : ∀ P Q, ev (pMul P Q) x = ev P x * ev Q x
  | [], Q => by simp [pMul, ev]
  | [c], Q => by simp only [pMul, ev, ev_sc]; grind
  | c :: d :: P, Q => by
    have ih := ev_mul x (d :: P) Q
    simp only [pMul, ev_add, ev_sc] at ih ⊢
    simp only [ev] at ih ⊢
    rw [ih]; grind
theorem dv_mul (x : Rat) : ∀ P Q, dv (pMul P Q) x = dv P x * ev Q x + ev P x * dv Q x
  | [], Q => by simp only [pMul, ev, dv]; grind
  | [c], Q => by simp only [pMul, ev, dv, dv_sc]; grind
  | c :: d :: P, Q => by
    have ih := dv_mul x (d :: P) Q
    have ie := ev_mul x (d :: P) Q
    have h : pMul (c :: d :: P) Q = pAdd (pSc c Q) (0 :: pMul (d :: P) Q) := rfl
    rw [h, dv_add, dv_sc]
    have h2 : dv (0 :: pMul (d :: P) Q) x = ev (pMul (d :: P) Q) x + x * dv (pMul (d :: P) Q) x := rfl
    have h3 : dv (c :: d :: P) x = ev (d :: P) x + x * dv (d :: P) x := rfl
    have h4 : ev (c :: d :: P) x = c + x * ev (d :: P) x := rfl
    rw [h2, h3, h4, ie, ih]; grind
theorem ev_pow (x : Rat) (P : List Rat) : ∀ n, ev (pPow P n) x = ev P x ^ n
  | 0 => by simp only [pPow, ev, Rat.pow_zero]; grind
  | n + 1 => by simp only [pPow, ev_mul, ev_pow x P n, Rat.pow_succ]
theorem dv_pow (x : Rat) (P : List Rat) : ∀ n : Nat, dv (pPow P n) x = (n : Rat) * ev P x ^ (n - 1) * dv P x
  | 0 => by
    have e0 : ((0 : Nat) : Rat) = 0 := rfl
    simp only [pPow, dv, ev, e0]; grind
  | n + 1 => by
    simp only [pPow, dv_mul, dv_pow x P n, ev_pow]
    have ec : ((n + 1 : Nat) : Rat) = (n : Rat) + 1 := by push_cast; rfl
    simp only [Nat.add_sub_cancel]
    rw [ec]
    cases n with
    | zero =>
      have e0 : ((0 : Nat) : Rat) = 0 := rfl
      simp only [e0, Rat.pow_zero]; grind
    | succ m => simp only [Nat.add_sub_cancel, Rat.pow_succ]; grind
theorem ev_D (x : Rat) : ∀ P, ev (pD P) x = dv P x
  | [] => by simp [pD, ev, dv]
  | [c] => by simp only [pD, ev, dv]; grind
  | c :: d :: P => by
    have ih := ev_D x (d :: P)
    have h : pD (c :: d :: P) = pAdd (d :: P) (0 :: pD (d :: P)) := rfl
    rw [h, ev_add]
    have h2 : ev (0 :: pD (d :: P)) x = 0 + x * ev (pD (d :: P)) x := rfl
    have h3 : dv (c :: d :: P) x = ev (d :: P) x + x * dv (d :: P) x := rfl
    rw [h2, h3, ih]; grind
theorem len_add : ∀ P Q : List Rat, (pAdd P Q).length = max P.length Q.length
  | [], Q => by simp [pAdd]
  | c :: P, [] => by simp [pAdd]
  | c :: P, d :: Q => by simp only [pAdd, List.length_cons, len_add P Q]; omega
theorem len_sc (a : Rat) : ∀ P, (pSc a P).length = P.length
  | [] => rfl
  | c :: P => by simp [pSc, len_sc a P]
theorem len_mul : ∀ (P Q : List Rat) {i j : Nat}, P.length ≤ i + 1 → Q.length ≤ j + 1 → (pMul P Q).length ≤ i + j + 1
  | [], Q, i, j, _, _ => by simp [pMul]
  | [c], Q, i, j, _, h => by simp only [pMul, len_sc]; omega
  | c :: d :: P, Q, i, j, h1, h2 => by
    have h : pMul (c :: d :: P) Q = pAdd (pSc c Q) (0 :: pMul (d :: P) Q) := rfl
    simp only [List.length_cons] at h1
    have ih := len_mul (d :: P) Q (i := i - 1) (j := j) (by simp only [List.length_cons]; omega) h2
    rw [h, len_add, len_sc, List.length_cons]; omega
theorem len_pow (P : List Rat) {i : Nat} (h : P.length ≤ i + 1) : ∀ n, (pPow P n).length ≤ i * n + 1
  | 0 => by simp [pPow]
  | n + 1 => by
    have := len_mul (pPow P n) P (len_pow P h n) h
    simp only [pPow]; rw [Nat.mul_succ]; exact this
theorem ev_bound : ∀ P : List Rat, ∃ C, 0 ≤ C ∧ ∀ x : Rat, 0 ≤ x → x ≤ 1 → ev P x ≤ C ∧ -C ≤ ev P x := by
  intro P
  induction P with
  | nil => exact ⟨0, by grind, fun x _ _ => by simp [ev]⟩
  | cons c P ih =>
    obtain ⟨C, hC, ih⟩ := ih
    refine ⟨C + (if 0 ≤ c then c else -c), by split <;> grind, fun x h0 h1 => ?_⟩
    obtain ⟨i1, i2⟩ := ih x h0 h1
    simp only [ev]
    have b1 : x * ev P x ≤ C := by
      have : x * ev P x ≤ x * C := Rat.mul_le_mul_of_nonneg_left i1 h0
      have : x * C ≤ 1 * C := Rat.mul_le_mul_of_nonneg_right h1 hC
      grind
    have b2 : -C ≤ x * ev P x := by
      have : x * (-C) ≤ x * ev P x := Rat.mul_le_mul_of_nonneg_left i2 h0
      have : x * C ≤ 1 * C := Rat.mul_le_mul_of_nonneg_right h1 hC
      grind
    split <;> grind
theorem ev_head {c C : Rat} {P : List Rat} (h : ∀ x, 0 < x → c + x * ev P x = 0) (hC : 0 ≤ C) (hb : ∀ x : Rat, 0 ≤ x → x ≤ 1 → ev P x ≤ C ∧ -C ≤ ev P x) : c = 0 := by
  refine Classical.byContradiction fun hc => ?_
  obtain ⟨m, hm, hcm⟩ : ∃ m : Rat, 0 < m ∧ (c = m ∨ c = -m) := by
    by_cases h0 : 0 ≤ c
    · exact ⟨c, by grind, .inl rfl⟩
    · exact ⟨-c, by grind, .inr (by grind)⟩
  have hs : 0 < C + m := by grind
  have hx : 0 < m / (C + m) := by rw [Rat.div_def]; exact Rat.mul_pos hm (Rat.inv_pos.2 hs)
  have hx1 : m / (C + m) * (C + m) = m := Rat.div_mul_cancel (by grind)
  generalize m / (C + m) = x at hx hx1
  have hle : x ≤ 1 := by
    refine Classical.byContradiction fun hn => ?_
    have h1 : 1 ≤ x := by grind
    have : 1 * C ≤ x * C := Rat.mul_le_mul_of_nonneg_right h1 hC
    have : 1 * m < x * m := Rat.mul_lt_mul_of_pos_right (by grind) hm
    grind
  obtain ⟨i1, i2⟩ := hb x (by grind) hle
  have b1 : x * ev P x ≤ x * C := Rat.mul_le_mul_of_nonneg_left i1 (by grind)
  have b2 : x * (-C) ≤ x * ev P x := Rat.mul_le_mul_of_nonneg_left i2 (by grind)
  have := h x hx
  have : 0 < x * m := Rat.mul_pos hx hm
  grind
theorem ev_zero : ∀ P : List Rat, (∀ x, 0 < x → ev P x = 0) → ∀ x, dv P x = 0 ∧ ev P x = 0
  | [], _, x => ⟨rfl, rfl⟩
  | c :: P, h, x => by
    obtain ⟨C, hC, hb⟩ := ev_bound P
    obtain rfl := ev_head (c := c) h hC hb
    obtain ⟨i1, i2⟩ := ev_zero P (fun y hy => by
      have := h y hy
      simp only [ev] at this
      grind) x
    simp only [dv, ev, i1, i2]
    constructor <;> grind
theorem dv_ext {P Q : List Rat} (h : ∀ x, ev P x = ev Q x) (x : Rat) : dv P x = dv Q x := by
  obtain ⟨h1, _⟩ := ev_zero (pAdd P (pSc (-1) Q)) (fun y _ => by rw [ev_add, ev_sc, h]; grind) x
  rw [dv_add, dv_sc] at h1
  grind
def pDs (P : List Rat) : Nat → List Rat
  | 0 => P
  | n + 1 => pD (pDs P n)
def fct : Nat → Int
  | 0 => 1
  | n + 1 => fct n * ((n + 1 : Nat) : Int)
/-- The sum of the first derivatives, divided by factorials. -/
def tS (P : List Rat) (a : Rat) : Nat → Rat
  | 0 => 0
  | n + 1 => tS P a n + ev (pDs P n) a / (fct n : Rat)
theorem taylor_list {P : List Rat} {n : Nat} (a : Rat) (hn : n ≤ 4) (hP : P.length ≤ n + 1) : tS P a (n + 1) = ev P (a + 1) := by
  have f0 : ((1 : Int) : Rat) = 1 := rfl
  have f2 : ((2 : Int) : Rat) = 2 := rfl
  have f6 : ((6 : Int) : Rat) = 6 := rfl
  have f24 : ((24 : Int) : Rat) = 24 := rfl
  have g0 : fct 0 = 1 := rfl
  have g1 : fct 1 = 1 := rfl
  have g2 : fct 2 = 2 := rfl
  have g3 : fct 3 = 6 := rfl
  have g4 : fct 4 = 24 := rfl
  rcases (show n = 0 ∨ n = 1 ∨ n = 2 ∨ n = 3 ∨ n = 4 by omega) with rfl | rfl | rfl | rfl | rfl
  all_goals
    simp only [tS, g0, g1, g2, g3, g4, f0, f2, f6, f24]
    match P with
    | [] => simp only [pDs, pD, ev]; grind
    | [c0] => simp only [pDs, pD, ev]; grind
    | [c0, c1] => first | (simp at hP; done) | (simp only [pDs, pD, pAdd, ev]; grind)
    | [c0, c1, c2] => first | (simp at hP; done) | (simp only [pDs, pD, pAdd, ev]; grind)
    | [c0, c1, c2, c3] => first | (simp at hP; done) | (simp only [pDs, pD, pAdd, ev]; grind)
    | [c0, c1, c2, c3, c4] => first | (simp at hP; done) | (simp only [pDs, pD, pAdd, ev]; grind)
    | c0 :: c1 :: c2 :: c3 :: c4 :: c5 :: P => simp only [List.length_cons] at hP; omega

/-! ### Expressions that are polynomials -/
def rX (nm : Bytes) (a : Rat) : Bytes → Rat := fun s => if s = nm then a else 0
theorem poly_qd {nm : Bytes} {e : Ex} (h : VT e) : polE e = true → ∀ n, degE nm e = some n → ∃ P : List Rat, P.length ≤ n + 1 ∧ ∀ a, qd (rX nm a) nm e = some (ev P a, dv P a) := by
  induction h with
  | num r _ =>
    intro _ n _
    refine ⟨[rv r], by simp, fun a => ?_⟩
    rw [qd_rat]
    simp only [ev, dv, Option.some.injEq, Prod.mk.injEq]
    constructor <;> grind
  | var s _ =>
    intro _ n hn
    rw [deg_var] at hn
    by_cases hs : s = nm
    · rw [if_pos hs] at hn
      refine ⟨[0, 1], by simp at hn ⊢; omega, fun a => ?_⟩
      rw [qd_var]
      simp only [rX, if_pos hs, ev, dv, Option.some.injEq, Prod.mk.injEq]
      constructor <;> grind
    · refine ⟨[], by simp, fun a => ?_⟩
      rw [qd_var]
      simp only [rX, if_neg hs, ev, dv]
  | un k a hk _ ih =>
    intro hp n hn
    by_cases h7 : k = 7
    · subst h7
      rw [pol_one (.inl rfl)] at hp
      obtain ⟨i, hi, e1, _⟩ := deg_one_some (by omega) hn
      obtain ⟨P, h1, h2⟩ := ih hp i hi
      refine ⟨pSc (-1) P, by rw [len_sc, e1]; simp [deg1]; exact h1, fun x => ?_⟩
      rw [qd_one _ _ a (by omega), h2, ev_sc, dv_sc]
      simp only [qd1, if_true, Option.some.injEq, Prod.mk.injEq]
      constructor <;> grind
    · rw [pol_fun (by unfold K1 at hk; omega)] at hp
      cases hp
  | pow m a h0 h16 _ ih =>
    intro hp n hn
    rw [pol_one (.inr rfl)] at hp
    obtain ⟨i, hi, e1, _⟩ := deg_one_some (by omega) hn
    obtain ⟨P, h1, h2⟩ := ih hp i hi
    refine ⟨pPow P m.toNat, by rw [e1]; simp only [deg1, if_true]; exact len_pow P h1 _, fun x => ?_⟩
    rw [qd_one _ _ a (by omega), h2, ev_pow, dv_pow]
    obtain ⟨m, rfl⟩ : ∃ k : Nat, m = (k : Int) := ⟨m.toNat, by omega⟩
    have e2 : ((m : Int) - 1).toNat = m - 1 := by omega
    have e3 : ((m : Int) : Rat) = (m : Rat) := rfl
    simp only [qd1, e2, e3, Int.toNat_natCast, reduceIte, Int.reduceEq]
  | bin k a b hk ha hb ih1 ih2 =>
    intro hp n hn
    obtain ⟨i, j, hi, hj, e1, _⟩ := deg_two_some (K2_ne hk) hn
    rcases hk with rfl | rfl | rfl | rfl
    · rw [pol_two (by omega)] at hp
      simp only [Bool.and_eq_true] at hp
      obtain ⟨P, h1, h2⟩ := ih1 hp.1 i hi
      obtain ⟨Q, h3, h4⟩ := ih2 hp.2 j hj
      have e1 : n = max i j := by rw [e1]; simp [deg2]
      refine ⟨pAdd P Q, by rw [len_add, e1]; omega, fun x => ?_⟩
      rw [qd_two _ _ a b (by omega), h2, h4, ev_add, dv_add]
      simp only [qd2, reduceIte, Int.reduceEq]
    · rw [pol_two (by omega)] at hp
      simp only [Bool.and_eq_true] at hp
      obtain ⟨P, h1, h2⟩ := ih1 hp.1 i hi
      obtain ⟨Q, h3, h4⟩ := ih2 hp.2 j hj
      have e1 : n = max i j := by rw [e1]; simp [deg2]
      refine ⟨pAdd P (pSc (-1) Q), by rw [len_add, len_sc, e1]; omega, fun x => ?_⟩
      rw [qd_two _ _ a b (by omega), h2, h4, ev_add, dv_add, ev_sc, dv_sc]
      simp only [qd2, reduceIte, Int.reduceEq, Option.some.injEq, Prod.mk.injEq]
      constructor <;> grind
    · rw [pol_two (by omega)] at hp
      simp only [Bool.and_eq_true] at hp
      obtain ⟨P, h1, h2⟩ := ih1 hp.1 i hi
      obtain ⟨Q, h3, h4⟩ := ih2 hp.2 j hj
      have e1 : n = i + j := by rw [e1]; simp [deg2]
      refine ⟨pMul P Q, by rw [e1]; exact len_mul P Q h1 h3, fun x => ?_⟩
      rw [qd_two _ _ a b (by omega), h2, h4, ev_mul, dv_mul]
      simp only [qd2, reduceIte, Int.reduceEq]
    · rw [pol_div] at hp
      simp only [Bool.and_eq_true, beq_iff_eq, bne_iff_ne, ne_eq] at hp
      obtain ⟨⟨p1, p2⟩, p3, p4⟩ := hp
      obtain ⟨r, hr, rfl⟩ := VT_num hb p1
      obtain ⟨P, h1, h2⟩ := ih1 p3 i hi
      have e1 : n = i := by rw [e1]; simp [deg2]
      have hz : rv r ≠ 0 := fun h => p2 ((rv_zero hr).1 h)
      refine ⟨pSc (1 / rv r) P, by rw [len_sc, e1]; exact h1, fun x => ?_⟩
      rw [qd_two _ _ a _ (by omega), h2, qd_rat, ev_sc, dv_sc]
      simp only [qd2, reduceIte, Int.reduceEq, if_neg hz, Option.some.injEq, Prod.mk.injEq]
      constructor <;> grind
/-- This tree is this polynomial. -/
def TI (nm : Bytes) (e : Ex) (P : List Rat) : Prop := VT e ∧ polE e = true ∧ (∃ m, degE nm e = some m) ∧ ∀ a, qd (rX nm a) nm e = some (ev P a, dv P a)
theorem TI_diff {nm : Bytes} {e : Ex} {P : List Rat} (h : TI nm e P) : TI nm (diffE nm (simE e)) (pD P) := by
  obtain ⟨h1, h2, ⟨n, h3⟩, h4⟩ := h
  obtain ⟨p1, m, p2, _⟩ := pd_all h1 h2 h3
  have hv := VT_diff nm (VT_sim h1)
  obtain ⟨Q, _, q2⟩ := poly_qd hv p1 m p2
  have hq : ∀ a, ev Q a = ev (pD P) a := fun a => by
    have e1 := diff_qv (VT_sim h1) _ _ (sim_qd h1 _ (h4 a))
    have e2 := qd_fst hv _ _ (q2 a)
    rw [e1] at e2
    rw [ev_D]; exact (Option.some.inj e2).symm
  refine ⟨hv, p1, ⟨m, p2⟩, fun a => ?_⟩
  rw [q2 a, hq a, dv_ext hq a]
theorem TI_qv {nm : Bytes} {e : Ex} {P : List Rat} (h : TI nm e P) (a : Rat) : qv (rX nm a) e = some (ev P a) := qd_fst h.1 _ _ (h.2.2.2 a)
/-- What Exactly gives for one name. -/
theorem ex_one {nm : Bytes} {e : Ex} {a : Int} {y : Rt} (ho : okT e = true) (h : exF e [nm] [⟨a, 1⟩] = (y, 0)) : rOk y = true ∧ qv (rX nm (a : Rat)) e = some (rv y) := by
  have hv := okT_VT ho
  unfold exF at h
  split at h
  · rename_i hc
    obtain ⟨hc1, hc2, hc3, hc4, hc5⟩ := hc
    have hr := (ratB_ok hc3).2
    have hrho : rho (envL [nm] [⟨a, 1⟩] []) = rX nm (a : Rat) := by
      funext s
      show rv (mget .str s ⟨0, 0⟩ [(nm, (⟨a, 1⟩ : Rt))]) = _
      have hk : keyB .str s nm = decide (s = nm) := by
        rw [Bool.eq_iff_iff, decide_eq_true_eq]
        exact beq_iff_eq (α := List UInt8)
      by_cases hs : s = nm
      · have hk' : keyB .str s nm = true := by rw [hk]; simp [hs]
        simp only [mget, hk', cond_true, rX, if_pos hs, rv_one]
      · have hk' : keyB .str s nm = false := by rw [hk]; simp [hs]
        simp only [mget, hk', cond_false, rX, if_neg hs]
        show ((0 : Int) : Rat) / ((0 : Int) : Rat) = 0
        have e0 : ((0 : Int) : Rat) = 0 := rfl
        rw [e0, Rat.div_def, Rat.zero_mul]
    generalize hes : envL [nm] [⟨a, 1⟩] [] = es at *
    have hA : EnvA es := by rw [← hes]; exact envA_L hc4 (fun p hp => by simp at hp)
    have hvars := (nm_all ho es).1 hc5
    have hok : ∀ s, hasN es s = true → rOk (mget .str s ⟨0, 0⟩ es) = true := fun s hs => by
      obtain ⟨p, h1, h2⟩ := mget_mem (z := ⟨0, 0⟩) hs
      rw [h2]; exact hA p h1
    have x1 := xc_val es hv hr fun y hy h2 => hok _ (hvars y hy h2)
    rw [hrho] at x1
    split at h
    · rename_i h0
      obtain ⟨x, hx⟩ := x1.2 h0
      obtain ⟨d1, d2⟩ := done_ok (x1.1 x hx) h0
      rw [h] at d1 d2
      exact ⟨d1, by rw [d2]; exact hx⟩
    · rename_i h0
      simp only [Prod.mk.injEq] at h
      exact absurd h.2 h0
  · simp at h
/-- One more derivative in the sum. -/
theorem taylor_step {nm : Bytes} {e : Ex} {P : List Rat} {k : Nat} {a : Int} {y t z s : Rt} (h : TI nm e (pDs P k)) (ho : okT e = true) (hy : exF e [nm] [⟨a, 1⟩] = (y, 0)) (hf : 0 < fct k) (hf2 : fct k ≤ 1073741824)
    (ht : rOk t = true ∧ rv t = tS P (a : Rat) k) (hz : rDiv y ⟨fct k, 1⟩ = (z, 0)) (hs : rAdd t z = (s, 0)) : rOk s = true ∧ rv s = tS P (a : Rat) (k + 1) := by
  obtain ⟨y1, y2⟩ := ex_one ho hy
  have hq := TI_qv h (a : Rat)
  rw [hq] at y2
  have y2 : ev (pDs P k) (a : Rat) = rv y := Option.some.inj y2
  have hok : rOk ⟨fct k, 1⟩ = true := rOk_one (by omega)
  have hne : rv ⟨fct k, 1⟩ ≠ 0 := by rw [rv_one]; exact rat_ne (by omega)
  obtain ⟨z1, z2⟩ := done_ok (div_done y1 hok hne) (by rw [hz])
  rw [hz] at z1 z2
  obtain ⟨s1, s2⟩ := done_ok (add_done ht.1 z1) (by rw [hs])
  rw [hs] at s1 s2
  refine ⟨s1, ?_⟩
  simp only [tS]
  have z2 : rv z = rv y / rv ⟨fct k, 1⟩ := z2
  rw [s2, ht.2, z2, rv_one, y2]
end Go.Proofs.Ytmcdnbmamoggoaa

/-
  The law: DeriveTaylor.
-/
namespace Go.Proofs.Ytmcdnbmamoggoaa
open Go Go.Sx
set_option maxRecDepth 100000
set_option maxHeartbeats 8000000
theorem dgB_some {e : Ex} {nm : Bytes} {n : Int} (h : dgB e nm = (n, true)) : ∃ m : Nat, n = m ∧ okT e = true ∧ polE e = true ∧ degE nm e = some m := by
  unfold dgB at h
  split at h
  · rename_i hc
    simp only [Bool.and_eq_true] at hc
    unfold dgE at h
    cases hd : degE nm e with
    | none => rw [hd] at h; simp at h
    | some m =>
      rw [hd] at h
      simp only [Prod.mk.injEq, and_true] at h
      exact ⟨m, h.symm, hc.1, hc.2, rfl⟩
  · simp at h
theorem dfE_zero {e d : Ex} {nm : Bytes} (h : dfE e nm = (d, 0)) : d = diffE nm (simE e) ∧ okT d = true := by
  unfold dfE at h
  split at h
  · split at h
    · rename_i hk
      simp only [Prod.mk.injEq, and_true] at h
      rw [← h]; exact ⟨rfl, hk⟩
    · simp at h
  · simp at h
theorem fct_small {k : Nat} (h : k ≤ 4) : 0 < fct k ∧ fct k ≤ 24 := by
  rcases (show k = 0 ∨ k = 1 ∨ k = 2 ∨ k = 3 ∨ k = 4 by omega) with rfl | rfl | rfl | rfl | rfl <;> decide
theorem f13 (e : Ex) (at' : Int) (he : Sm e) : Fn 13 [] [.agg (exC e), .int .i16 at'] (.bool true) [] := by
  have h21 := f21 e [120] he
  refine fnT hT hmx Try.func13 rfl rfl (ex := []) ?_
  conv => whnf
  refine ⟨[], _, f14, ?_⟩
  conv => whnf
  refine cbI [] (smB e) (f28 e he) (fun hs => ?_) (fun hs => ?_)
  rotate_left
  · conv => whnf
    refine ⟨[], _, f14, ?_⟩
    conv => whnf
    exact ⟨leA_refl rfl, leH_nil⟩
  conv => whnf
  refine brI (fun h1 => ?_) (fun h1 => ?_)
  · conv => whnf
    refine ⟨[], _, f14, ?_⟩
    conv => whnf
    exact ⟨leA_refl rfl, leH_nil⟩
  have h1 : ¬ at' < -50 := by simpa using h1
  conv => whnf
  refine brI (fun h2 => ?_) (fun h2 => ?_)
  · conv => whnf
    refine ⟨[], _, f14, ?_⟩
    conv => whnf
    exact ⟨leA_refl rfl, leH_nil⟩
  have h2 : ¬ 50 < at' := by simpa using h2
  have ho := smB_ok hs
  obtain ⟨D, hD⟩ : ∃ D, dgB e [120] = D := ⟨_, rfl⟩
  rw [hD] at h21
  obtain ⟨n, b⟩ := D
  conv => whnf
  cases b with
  | false =>
    refine ⟨[], _, h21, ?_⟩
    conv => whnf
    exact ⟨leA_refl rfl, leH_nil⟩
  | true =>
    obtain ⟨m, rfl, _, hpol, hdeg⟩ := dgB_some hD
    refine ⟨[], _, h21, ?_⟩
    conv => whnf
    refine brI (fun h3 => ?_) (fun h3 => ?_)
    · conv => whnf
      exact ⟨leA_refl rfl, leH_nil⟩
    have h3 : m ≤ 4 := by
      have : ¬ (4 : Int) < (m : Int) := by simpa using h3
      omega
    conv => whnf
    have ew : IntKind.i64.wrap at' = at' := wI (by omega)
    have ew1 : at' + 1 = IntKind.i64.wrap (IntKind.i64.wrap at' + 1) := by rw [ew, wI (by omega)]
    have h51a := f51 e [[120]] [⟨at' + 1, 1⟩] he (by simp) (by simp)
    obtain ⟨E, hE⟩ : ∃ E, exF e [[120]] [⟨at' + 1, 1⟩] = E := ⟨_, rfl⟩
    rw [hE] at h51a
    rw [ew1] at h51a
    obtain ⟨wv, f⟩ := E
    by_cases hf : f = 0
    rotate_left
    · refine ⟨[], _, h51a, ?_⟩
      conv => whnf
      refine brI (fun _ => ?_) (fun h => absurd (by simpa using h) hf)
      conv => whnf
      exact ⟨leA_refl rfl, leH_nil⟩
    subst hf
    obtain ⟨P, hP1, hP2⟩ := poly_qd (okT_VT ho) hpol m hdeg
    obtain ⟨w1, w2⟩ := ex_one ho hE
    have hT0 : TI [120] e P := ⟨okT_VT ho, hpol, ⟨m, hdeg⟩, hP2⟩
    rw [TI_qv hT0] at w2
    have w2 : ev P ((at' + 1 : Int) : Rat) = rv wv := Option.some.inj w2
    refine ⟨[], _, h51a, ?_⟩
    conv => whnf
    refine ⟨Nat × Ex × Rt, fun y => y.1 ≤ m + 1 ∧ TI [120] y.2.1 (pDs P y.1) ∧ okT y.2.1 = true ∧ rOk y.2.2 = true ∧ rv y.2.2 = tS P (at' : Rat) y.1,
      fun y => [(65, .int .i64 y.1), (11, .int .i64 (fct (y.1 - 1)))], fun y => [(2, .cells (exC y.2.1)), (10, .cells [.int .i64 y.2.2.n, .int .i64 y.2.2.d])], fun y => m + 1 - y.1, (0, e, ⟨0, 1⟩), ⟨by simp, hT0, ho, ok01', rv01⟩, ?_, fun y hy => ?_⟩
    · ((conv => whnf); refine And.intro ?_ ?_; repeat' first | refine leL_cons ?_ ?_ | exact leA_any | exact leA_refl rfl | exact leL_nil | refine leH_cons ?_ ?_ | exact leH_nil | exact leB_free | exact leB_dead | refine leB_cells ?_ | exact leB_map rfl | exact leB_gst rfl | exact leA_nil rfl | refine leA_agg ?_ | refine leA_tup ?_ | fail)
    (refine ⟨by kernel_rfl, ?_⟩; (conv => whnf))
    obtain ⟨k, ek, t⟩ := y
    obtain ⟨y1, y2, y3, y4, y5⟩ := hy
    simp only at y1 y2 y3 y4 y5
    refine brI (fun h5 => ?_) (fun h5 => ?_)
    · have hk : k ≤ m := by
        have h5 : decide ((k : Int) < IntKind.i64.wrap ((m : Int) + 1)) = true := h5
        rw [wI (by omega)] at h5
        simp only [decide_eq_true_eq] at h5; omega
      obtain ⟨g1, g2⟩ := fct_small (k := k) (by omega)
      have h51 := f51 ek [[120]] [⟨at', 1⟩] (VT_Sm y2.1) (by simp) (by simp)
      have h16 := f16 ek [120] (VT_Sm y2.1) (by decide)
      obtain ⟨E, hE⟩ : ∃ E, exF ek [[120]] [⟨at', 1⟩] = E := ⟨_, rfl⟩
      obtain ⟨F, hF⟩ : ∃ F, dfE ek [120] = F := ⟨_, rfl⟩
      rw [hE] at h51
      rw [hF] at h16
      have hw : IntKind.i64.wrap at' = at' := ew
      obtain ⟨y, g⟩ := E
      obtain ⟨d, j⟩ := F
      obtain ⟨Z, hZ⟩ : ∃ Z, rDiv y ⟨fct k, 1⟩ = Z := ⟨_, rfl⟩
      have h57 := f57 y ⟨fct k, 1⟩
      rw [hZ] at h57
      obtain ⟨z, h⟩ := Z
      obtain ⟨S, hS⟩ : ∃ S, rAdd t z = S := ⟨_, rfl⟩
      have h58 := f58 t z
      rw [hS] at h58
      obtain ⟨s, i⟩ := S
      have hstep : g = 0 → h = 0 → i = 0 → rOk s = true ∧ rv s = tS P (at' : Rat) (k + 1) := fun e1 e2 e3 => by
        subst e1; subst e2; subst e3
        exact taylor_step y2 y3 hE g1 (by omega) ⟨y4, y5⟩ hZ hS
      have hmul : k ≠ 0 → IntKind.i64.wrap (fct (k - 1) * (k : Int)) = fct k := fun hk0 => by
        obtain ⟨q, rfl⟩ : ∃ q, k = q + 1 := ⟨k - 1, by omega⟩
        show IntKind.i64.wrap (fct q * ((q + 1 : Nat) : Int)) = fct (q + 1)
        rw [show fct q * ((q + 1 : Nat) : Int) = fct (q + 1) from rfl]
        exact wI (by omega)
      have h0 : k = 0 → fct (k - 1) = fct k := fun e => by subst e; rfl
      rw [← ew] at h51
      clear hZ hS hE
      have key : ∀ fk : Int, fk = fct k → True := fun _ _ => trivial
      generalize hfk : fct k = fk at *
      conv => whnf
      refine brI (fun h6 => ?_) (fun h6 => ?_)
      · have hk0 : k ≠ 0 := by
          have h6 : decide ((k : Int) > 0) = true := h6
          simp only [decide_eq_true_eq] at h6; omega
        have hmul := hmul hk0
        rw [← hmul] at h57
        conv => whnf
        refine ⟨[], _, h51, ?_⟩
        conv => whnf
        refine ⟨[], _, h57, ?_⟩
        conv => whnf
        refine ⟨[], _, h58, ?_⟩
        conv => whnf
        by_cases hg : g = 0
        rotate_left
        · refine brI (fun _ => ?_) (fun hh => absurd (by simpa using hh) hg)
          conv => whnf
          exact ⟨leA_refl rfl, leH_nil⟩
        subst hg
        conv => whnf
        by_cases hh : h = 0
        rotate_left
        · refine brI (fun _ => ?_) (fun hx => absurd (by simpa using hx) hh)
          conv => whnf
          exact ⟨leA_refl rfl, leH_nil⟩
        subst hh
        conv => whnf
        by_cases hi : i = 0
        rotate_left
        · refine brI (fun _ => ?_) (fun hx => absurd (by simpa using hx) hi)
          conv => whnf
          exact ⟨leA_refl rfl, leH_nil⟩
        subst hi
        conv => whnf
        obtain ⟨s1, s2⟩ := hstep rfl rfl rfl
        refine ⟨[], _, h16, ?_⟩
        conv => whnf
        by_cases hj : j = 0
        rotate_left
        · refine brI (fun _ => ?_) (fun hx => absurd (by simpa using hx) hj)
          conv => whnf
          exact ⟨leA_refl rfl, leH_nil⟩
        subst hj
        conv => whnf
        obtain ⟨d1, d2⟩ := dfE_zero hF
        refine ⟨(k + 1, d, s), ⟨by simp only; omega, by rw [d1]; exact TI_diff y2, d2, s1, s2⟩, by show m + 1 - (k + 1) < m + 1 - k; omega, ?_⟩
        ((conv => whnf); refine And.intro ?_ ?_; repeat' first | refine leL_cons ?_ ?_ | exact leA_any | exact leA_refl rfl | exact leL_nil | refine leH_cons ?_ ?_ | exact leH_nil | exact leB_free | exact leB_dead | refine leB_cells ?_ | exact leB_map rfl | exact leB_gst rfl | exact leA_nil rfl | refine leA_agg ?_ | refine leA_tup ?_ | fail)
        · exact leA_int (by show IntKind.i64.wrap (fct (k - 1) * (k : Int)) = fct k; rw [hmul, hfk])
        · exact leA_int (by rw [wI (by simp only; omega)]; simp only; omega)
      · have hk0 : k = 0 := by
          have h6 : decide ((k : Int) > 0) = false := h6
          simp only [decide_eq_false_iff_not] at h6; omega
        have h0 := h0 hk0
        rw [← h0] at h57
        conv => whnf
        refine ⟨[], _, h51, ?_⟩
        conv => whnf
        refine ⟨[], _, h57, ?_⟩
        conv => whnf
        refine ⟨[], _, h58, ?_⟩
        conv => whnf
        by_cases hg : g = 0
        rotate_left
        · refine brI (fun _ => ?_) (fun hh => absurd (by simpa using hh) hg)
          conv => whnf
          exact ⟨leA_refl rfl, leH_nil⟩
        subst hg
        conv => whnf
        by_cases hh : h = 0
        rotate_left
        · refine brI (fun _ => ?_) (fun hx => absurd (by simpa using hx) hh)
          conv => whnf
          exact ⟨leA_refl rfl, leH_nil⟩
        subst hh
        conv => whnf
        by_cases hi : i = 0
        rotate_left
        · refine brI (fun _ => ?_) (fun hx => absurd (by simpa using hx) hi)
          conv => whnf
          exact ⟨leA_refl rfl, leH_nil⟩
        subst hi
        conv => whnf
        obtain ⟨s1, s2⟩ := hstep rfl rfl rfl
        refine ⟨[], _, h16, ?_⟩
        conv => whnf
        by_cases hj : j = 0
        rotate_left
        · refine brI (fun _ => ?_) (fun hx => absurd (by simpa using hx) hj)
          conv => whnf
          exact ⟨leA_refl rfl, leH_nil⟩
        subst hj
        conv => whnf
        obtain ⟨d1, d2⟩ := dfE_zero hF
        refine ⟨(k + 1, d, s), ⟨by simp only; omega, by rw [d1]; exact TI_diff y2, d2, s1, s2⟩, by show m + 1 - (k + 1) < m + 1 - k; omega, ?_⟩
        ((conv => whnf); refine And.intro ?_ ?_; repeat' first | refine leL_cons ?_ ?_ | exact leA_any | exact leA_refl rfl | exact leL_nil | refine leH_cons ?_ ?_ | exact leH_nil | exact leB_free | exact leB_dead | refine leB_cells ?_ | exact leB_map rfl | exact leB_gst rfl | exact leA_nil rfl | refine leA_agg ?_ | refine leA_tup ?_ | fail)
        · exact leA_int (by show fct (k - 1) = fct k; rw [h0, hfk])
        · exact leA_int (by rw [wI (by simp only; omega)]; simp only; omega)
    · have hk : k = m + 1 := by
        have h5 : decide ((k : Int) < IntKind.i64.wrap ((m : Int) + 1)) = false := h5
        rw [wI (by omega)] at h5
        simp only [decide_eq_false_iff_not] at h5; omega
      subst hk
      have hfin : t = wv := by
        refine rv_inj y4 w1 ?_
        rw [y5, ← w2, taylor_list (at' : Rat) h3 hP1]
        congr 1
        exact_mod_cast rfl
      subst hfin
      conv => whnf
      exact ⟨leA_bool (by simp), leH_nil⟩
end Go.Proofs.Ytmcdnbmamoggoaa
