/-
  The seat's type table; how a contract is proved.
-/
import Derived.Test.YtnijmbnkcmhfpaaGreatDoorQZz
import Derived.Test.YtnijmbnkcmhfpaaGreatDoorChecked
set_option linter.unusedVariables false
set_option linter.unusedSimpArgs false
namespace Go.Proofs.YtnijmbnkcmhfpaaGreatDoor
open Go Go.Sx
def Ty : List (Nat × TI) := [
  (3, ⟨1, 1, [], 0, 0, 0, some .int, .i64, [.int .i64 0], 8, false⟩),
  (39, ⟨2, 3, [(0, 1, false), (1, 1, false), (2, 1, false)], 0, 0, 0, some .dy, .i64, [.bool false, .nilsl, .int .i64 0], 40, false⟩),
  (41, ⟨2, 7, [(0, 3, true), (3, 3, true), (6, 1, false)], 0, 0, 0, some .iv, .i64, [.bool false, .nilsl, .int .i64 0, .bool false, .nilsl, .int .i64 0, .bool false], 88, false⟩),
  (37, ⟨3, 1, [], 113, 1, 0, some .ls, .i64, [.nilsl], 24, false⟩),
  (23, ⟨2, 2, [(0, 1, false), (1, 1, false)], 0, 0, 0, some .rat, .i64, [.int .i64 0, .int .i64 0], 16, true⟩),
  (191, ⟨2, 2, [(0, 1, false), (1, 1, false)], 0, 0, 0, none, .i64, [.bool false, .nilsl], 32, false⟩),
  (4, ⟨6, 1, [], 0, 0, 0, some .bool, .i64, [.bool false], 1, false⟩),
  (113, ⟨1, 1, [], 0, 0, 0, some .u32, .u32, [.int .u32 0], 4, false⟩),
  (70, ⟨1, 1, [], 0, 0, 0, none, .u64, [.int .u64 0], 8, false⟩),
  (9, ⟨5, 1, [], 0, 0, 0, some .str, .i64, [.str []], 16, false⟩),
  (26, ⟨2, 6, [(0, 1, false), (1, 2, true), (3, 1, false), (4, 1, false), (5, 1, false)], 0, 0, 0, some .ex, .i64, [.int .i64 0, .int .i64 0, .int .i64 0, .str [], .int .i64 0, .nilsl], 72, false⟩),
  (27, ⟨3, 1, [], 9, 1, 0, none, .i64, [.nilsl], 24, false⟩),
  (24, ⟨3, 1, [], 26, 6, 0, none, .i64, [.nilsl], 24, false⟩),
  (169, ⟨2, 1, [(0, 1, false)], 0, 0, 0, none, .i64, [.int .i64 0], 8, true⟩),
  (5, ⟨1, 1, [], 0, 0, 0, none, .u8, [.int .u8 0], 1, false⟩),
  (158, ⟨2, 3, [(0, 1, false), (1, 1, false), (2, 1, false)], 0, 0, 0, none, .i64, [.nilsl, .int .i64 0, .bool false], 40, false⟩),
  (30, ⟨1, 1, [], 0, 0, 0, none, .i64, [.int .i64 0], 8, false⟩),
  (45, ⟨3, 1, [], 41, 7, 0, none, .i64, [.nilsl], 24, false⟩),
  (147, ⟨1, 1, [], 0, 0, 0, none, .u64, [.int .u64 0], 8, false⟩),
  (28, ⟨3, 1, [], 23, 2, 0, none, .i64, [.nilsl], 24, false⟩),
  (75, ⟨4, 4, [], 23, 2, 2, none, .i64, [.int .i64 0, .int .i64 0, .int .i64 0, .int .i64 0], 32, false⟩),
  (94, ⟨1, 1, [], 0, 0, 0, none, .u64, [.int .u64 0], 8, false⟩),
  (162, ⟨4, 6, [], 39, 3, 2, none, .i64, [.bool false, .nilsl, .int .i64 0, .bool false, .nilsl, .int .i64 0], 80, false⟩),
  (206, ⟨3, 1, [], 37, 1, 0, none, .i64, [.nilsl], 24, false⟩),
  (181, ⟨3, 1, [], 39, 3, 0, none, .i64, [.nilsl], 24, false⟩),
  (48, ⟨9, 1, [], 9, 0, 23, none, .i64, [.nilm], 8, false⟩),
  (51, ⟨8, 1, [], 0, 0, 0, none, .i64, [.nilf], 8, false⟩),
  (163, ⟨4, 24, [], 162, 6, 4, none, .i64, [.bool false, .nilsl, .int .i64 0, .bool false, .nilsl, .int .i64 0, .bool false, .nilsl, .int .i64 0, .bool false, .nilsl, .int .i64 0, .bool false, .nilsl, .int .i64 0, .bool false, .nilsl, .int .i64 0, .bool false, .nilsl, .int .i64 0, .bool false, .nilsl, .int .i64 0], 320, false⟩),
  (58, ⟨9, 1, [], 9, 0, 41, none, .i64, [.nilm], 8, false⟩),
  (83, ⟨4, 14, [], 41, 7, 2, none, .i64, [.bool false, .nilsl, .int .i64 0, .bool false, .nilsl, .int .i64 0, .bool false, .bool false, .nilsl, .int .i64 0, .bool false, .nilsl, .int .i64 0, .bool false], 176, false⟩),
  (81, ⟨7, 1, [], 3, 0, 0, none, .i64, [.nilp], 8, false⟩),
  (218, ⟨4, 32, [], 5, 1, 32, none, .i64, [.int .u8 0, .int .u8 0, .int .u8 0, .int .u8 0, .int .u8 0, .int .u8 0, .int .u8 0, .int .u8 0, .int .u8 0, .int .u8 0, .int .u8 0, .int .u8 0, .int .u8 0, .int .u8 0, .int .u8 0, .int .u8 0, .int .u8 0, .int .u8 0, .int .u8 0, .int .u8 0, .int .u8 0, .int .u8 0, .int .u8 0, .int .u8 0, .int .u8 0, .int .u8 0, .int .u8 0, .int .u8 0, .int .u8 0, .int .u8 0, .int .u8 0, .int .u8 0], 32, false⟩),
  (118, ⟨1, 1, [], 0, 0, 0, none, .i64, [.int .i64 0], 8, false⟩)]
def T : Tab := { ty := Ty, of := [33, 34], nb := [(30, 1), (13, 1), (34, 1), (103, 1)] }
theorem hmx : Tryz.prog.follows .mixedOrders = true := by kernel_rfl
theorem hT : TabOK Tryz.prog T := tab_ok (by kernel_rfl) (by kernel_rfl)
/-- A contract of a function of this program. -/
abbrev Fn (f : Nat) (H : Hp) (A : List AV) (r : AV) (H' : Hp) : Prop := FnOK Tryz.prog f H A r H'
end Go.Proofs.YtnijmbnkcmhfpaaGreatDoor

/-
  Numbers: the greatest common divisor, ratios.
-/
namespace Go.Proofs.YtnijmbnkcmhfpaaGreatDoor
open Go Go.Sx
set_option maxRecDepth 100000
set_option maxHeartbeats 1000000

theorem f105 (n : Int) (h : -9223372036854775808 ≤ n ∧ n ≤ 9223372036854775807) : Fn 32 [] [.int .i64 n] (.int .u64 (n.natAbs : Int)) [] := by
  refine fnT hT hmx Tryz.func32 rfl rfl (ex := []) ?_
  conv => whnf
  refine brI (fun hb => ?_) (fun hb => ?_)
  · conv => whnf
    simp at hb
    refine ⟨leA_int ?_, leH_nil⟩
    rcases Decidable.em (n = -9223372036854775808) with e | e
    · subst e; rfl
    · rw [wI (by omega), wU (by omega)]; omega
  · conv => whnf
    simp at hb
    refine ⟨leA_int ?_, leH_nil⟩
    rw [wU (by omega)]; omega

theorem tmodNat (a b : Nat) : Int.tmod (a : Int) (b : Int) = ((a % b : Nat) : Int) := by
  rw [Int.tmod_eq_emod_of_nonneg (by omega)]; rfl
theorem tdivNat (a b : Nat) : Int.tdiv (a : Int) (b : Int) = ((a / b : Nat) : Int) := by
  rw [Int.tdiv_eq_ediv_of_nonneg (by omega)]; rfl

theorem f104 (a b : Nat) (ha : a < 18446744073709551616) (hb : b < 18446744073709551616) : Fn 31 [] [.int .u64 a, .int .u64 b] (.int .u64 (Nat.gcd a b : Int)) [] := by
  refine fnT hT hmx Tryz.func31 rfl rfl (ex := []) ?_
  conv => whnf
  refine ⟨Nat × Nat, fun x => Nat.gcd x.1 x.2 = Nat.gcd a b ∧ x.1 < 18446744073709551616 ∧ x.2 < 18446744073709551616, fun x => [(0, .int .u64 x.1), (1, .int .u64 x.2)], fun _ => [], fun x => x.2, (a, b), ⟨rfl, ha, hb⟩, ?_, fun x hx => ?_⟩
  · ((conv => whnf); refine ⟨?_, leH_nil⟩; repeat' first | exact leL_nil | exact leA_any | exact leA_refl rfl | refine leL_cons ?_ ?_)
  · obtain ⟨hg, h1, h2⟩ := hx
    (refine ⟨by kernel_rfl, ?_⟩; (conv => whnf))
    refine brI (fun hb => ?_) (fun hb => ?_)
    · conv => whnf
      simp at hb
      refine ⟨by omega, ?_⟩
      conv => whnf
      (refine ⟨by kernel_rfl, by kernel_rfl, ?_⟩; (conv => whnf))
      refine ⟨(x.2, x.1 % x.2), ⟨?_, h2, ?_⟩, ?_, ?_⟩
      · rw [← hg]; show Nat.gcd x.2 (x.1 % x.2) = _; rw [Nat.gcd_comm x.1 x.2, Nat.gcd_comm x.2 (x.1 % x.2)]; exact (Nat.gcd_rec _ _).symm
      · have := Nat.mod_lt x.1 (Nat.pos_of_ne_zero hb); omega
      · exact Nat.mod_lt x.1 (Nat.pos_of_ne_zero hb)
      · ((conv => whnf); refine ⟨?_, leH_nil⟩; repeat' first | exact leL_nil | exact leA_any | exact leA_refl rfl | refine leL_cons ?_ ?_)
    · conv => whnf
      simp at hb
      refine ⟨leA_int ?_, leH_nil⟩
      rw [← hg, hb, Nat.gcd_zero_right]
theorem wQ (a g : Nat) (ha : a < 18446744073709551616) : IntKind.u64.wrap (Int.tdiv (a : Int) (g : Int)) = ((a / g : Nat) : Int) := by
  have := Nat.div_le_self a g
  rw [tdivNat]
  generalize a / g = c at *
  rw [wU]; omega

theorem f155 (a b : Nat) (ha : a < 18446744073709551616) (hb : b < 18446744073709551616) : Fn 43 [] [.int .u64 a, .int .u64 b] (.int .u64 (Nat.gcd a b : Int)) [] := by
  refine fnT hT hmx Tryz.func43 rfl rfl (ex := []) ?_
  conv => whnf
  refine ⟨Nat × Nat, fun x => Nat.gcd x.1 x.2 = Nat.gcd a b ∧ x.1 < 18446744073709551616 ∧ x.2 < 18446744073709551616, fun x => [(0, .int .u64 x.1), (1, .int .u64 x.2)], fun _ => [], fun x => x.2, (a, b), ⟨rfl, ha, hb⟩, ?_, fun x hx => ?_⟩
  · ((conv => whnf); refine ⟨?_, leH_nil⟩; repeat' first | exact leL_nil | exact leA_any | exact leA_refl rfl | refine leL_cons ?_ ?_)
  · obtain ⟨hg, h1, h2⟩ := hx
    (refine ⟨by kernel_rfl, ?_⟩; (conv => whnf))
    refine brI (fun hb => ?_) (fun hb => ?_)
    · conv => whnf
      simp at hb
      refine ⟨by omega, ?_⟩
      conv => whnf
      (refine ⟨by kernel_rfl, by kernel_rfl, ?_⟩; (conv => whnf))
      refine ⟨(x.2, x.1 % x.2), ⟨?_, h2, ?_⟩, ?_, ?_⟩
      · rw [← hg]; show Nat.gcd x.2 (x.1 % x.2) = _; rw [Nat.gcd_comm x.1 x.2, Nat.gcd_comm x.2 (x.1 % x.2)]; exact (Nat.gcd_rec _ _).symm
      · have := Nat.mod_lt x.1 (Nat.pos_of_ne_zero hb); omega
      · exact Nat.mod_lt x.1 (Nat.pos_of_ne_zero hb)
      · ((conv => whnf); refine ⟨?_, leH_nil⟩; repeat' first | exact leL_nil | exact leA_any | exact leA_refl rfl | refine leL_cons ?_ ?_)
    · conv => whnf
      simp at hb
      refine ⟨leA_int ?_, leH_nil⟩
      rw [← hg, hb, Nat.gcd_zero_right]

theorem f156 (n : Int) (h : -9223372036854775808 ≤ n ∧ n ≤ 9223372036854775807) : Fn 44 [] [.int .i64 n] (.int .u64 (n.natAbs : Int)) [] := by
  refine fnT hT hmx Tryz.func44 rfl rfl (ex := []) ?_
  conv => whnf
  refine brI (fun hb => ?_) (fun hb => ?_)
  · conv => whnf
    simp at hb
    refine ⟨leA_int ?_, leH_nil⟩
    rw [wI (x := n + 1) (by omega), wI (by omega), wU (x := 0 - (n + 1)) (by omega), wU (by omega)]; omega
  · conv => whnf
    simp at hb
    refine ⟨leA_int ?_, leH_nil⟩
    rw [wU (by omega)]; omega
theorem wN (c : Nat) (h : ¬ ((c : Int) > 1073741824)) : IntKind.i64.wrap (c : Int) = (c : Int) := wI (by omega)
theorem wM (c : Nat) (h : ¬ ((c : Int) > 1073741824)) : IntKind.i64.wrap (0 - (c : Int)) = -(c : Int) := by rw [wI (by omega)]; omega
end Go.Proofs.YtnijmbnkcmhfpaaGreatDoor

/-
  Numbers: ratios.
-/
namespace Go.Proofs.YtnijmbnkcmhfpaaGreatDoor
open Go Go.Sx
set_option maxRecDepth 100000
set_option maxHeartbeats 1000000
/-- A ratio is valid. -/
def rIn (r : Rt) : Prop := 1 ≤ r.d ∧ r.d ≤ 1073741824 ∧ -1073741824 ≤ r.n ∧ r.n ≤ 1073741824
instance (r : Rt) : Decidable (rIn r) := by unfold rIn; infer_instance
def rOk (r : Rt) : Bool := decide (rIn r) && (Nat.gcd r.n.natAbs r.d.natAbs == 1)
theorem rOk_no {r : Rt} (h : ¬ rIn r) : false = rOk r := by simp [rOk, h]
theorem f54 (n d : Int) : Fn 15 [] [.agg [.int .i64 n, .int .i64 d]] (.bool (rOk ⟨n, d⟩)) [] := by
  refine fnT hT hmx Tryz.func15 rfl rfl (ex := []) ?_
  conv => whnf
  refine brI (fun h1 => ?_) (fun h1 => ?_)
  · conv => whnf
    refine brI (fun h2 => ?_) (fun h2 => ?_)
    · conv => whnf
      refine brI (fun h3 => ?_) (fun h3 => ?_)
      · conv => whnf
        refine brI (fun h4 => ?_) (fun h4 => ?_)
        · conv => whnf
          simp only [decide_eq_true_eq] at h1 h2 h3 h4
          refine ⟨[], _, f105 n (by omega), ?_⟩
          conv => whnf
          refine ⟨[], _, f105 d (by omega), ?_⟩
          conv => whnf
          refine ⟨[], _, f104 n.natAbs d.natAbs (by omega) (by omega), ?_⟩
          conv => whnf
          (refine ⟨by kernel_rfl, by kernel_rfl, ?_⟩; (conv => whnf))
          refine ⟨leA_bool ?_, leH_nil⟩
          have : rIn ⟨n, d⟩ := ⟨h1, h2, h3, h4⟩
          simp only [rOk, this, decide_true, Bool.true_and]
          rw [Bool.eq_iff_iff]; simp; omega
        · conv => whnf
          (refine ⟨by kernel_rfl, by kernel_rfl, ?_⟩; (conv => whnf))
          exact ⟨leA_bool (rOk_no fun h => by simp [rIn] at h h4; omega), leH_nil⟩
      · conv => whnf
        (refine ⟨by kernel_rfl, by kernel_rfl, ?_⟩; (conv => whnf))
        exact ⟨leA_bool (rOk_no fun h => by simp [rIn] at h h3; omega), leH_nil⟩
    · conv => whnf
      (refine ⟨by kernel_rfl, by kernel_rfl, ?_⟩; (conv => whnf))
      exact ⟨leA_bool (rOk_no fun h => by simp [rIn] at h h2; omega), leH_nil⟩
  · conv => whnf
    (refine ⟨by kernel_rfl, by kernel_rfl, ?_⟩; (conv => whnf))
    exact ⟨leA_bool (rOk_no fun h => by simp [rIn] at h h1; omega), leH_nil⟩

/-- In lowest terms. -/
def low (neg : Bool) (a b : Nat) : Option Rt :=
  if a / Nat.gcd a b ≤ 1073741824 ∧ b / Nat.gcd a b ≤ 1073741824 then some ⟨if neg then -((a / Nat.gcd a b : Nat) : Int) else ((a / Nat.gcd a b : Nat) : Int), ((b / Nat.gcd a b : Nat) : Int)⟩ else none
def rMake (n d : Int) : Rt × Int := if d = 0 then (⟨0, 0⟩, 10) else match low (decide (n < 0) != decide (d < 0)) n.natAbs d.natAbs with
  | none => (⟨0, 0⟩, 9)
  | some r => (r, 0)
abbrev rtv (r : Rt) : AV := .agg [.int .i64 r.n, .int .i64 r.d]
theorem f144 (n d : Int) (hn : -9223372036854775808 ≤ n ∧ n ≤ 9223372036854775807) (hd : -9223372036854775808 ≤ d ∧ d ≤ 9223372036854775807) :
    Fn 115 [] [.int .i64 n, .int .i64 d] (.tup [rtv (rMake n d).1, .int .i64 (rMake n d).2]) [] := by
  refine fnT hT hmx Tryz.func115 rfl rfl (ex := []) ?_
  conv => whnf
  refine brI (fun h1 => ?_) (fun h1 => ?_)
  · conv => whnf
    have h1 : d = 0 := by simpa using h1
    refine ⟨?_, leH_nil⟩
    have : rMake n d = (⟨0, 0⟩, 10) := by simp [rMake, h1]
    rw [this]
    exact leA_refl rfl
  · conv => whnf
    have h1 : d ≠ 0 := by simpa using h1
    refine ⟨[], _, f105 n hn, ?_⟩
    conv => whnf
    refine ⟨[], _, f105 d hd, ?_⟩
    conv => whnf
    refine ⟨[], _, f104 n.natAbs d.natAbs (by omega) (by omega), ?_⟩
    conv => whnf
    have hg0 : Nat.gcd n.natAbs d.natAbs ≠ 0 := fun e => h1 (by have := Nat.eq_zero_of_gcd_eq_zero_right e; omega)
    refine ⟨by omega, ?_⟩
    conv => whnf
    refine ⟨by omega, ?_⟩
    conv => whnf
    (refine ⟨by kernel_rfl, by kernel_rfl, ?_⟩; (conv => whnf))
    refine brI (fun h2 => ?_) (fun h2 => ?_)
    · conv => whnf
      have hlow : rMake n d = (⟨0, 0⟩, 9) := by
        rw [wQ _ _ (by omega)] at h2
        simp only [decide_eq_true_eq] at h2
        have : low (decide (n < 0) != decide (d < 0)) n.natAbs d.natAbs = none := by rw [low, if_neg (by omega)]
        rw [rMake, if_neg h1, this]
      rw [hlow]
      exact ⟨leA_refl rfl, leH_nil⟩
    · conv => whnf
      rw [wQ _ _ (by omega)] at h2
      simp only [decide_eq_false_iff_not] at h2
      refine brI (fun h3 => ?_) (fun h3 => ?_)
      · conv => whnf
        have hlow : rMake n d = (⟨0, 0⟩, 9) := by
          rw [wQ _ _ (by omega)] at h3
          simp only [decide_eq_true_eq] at h3
          have : low (decide (n < 0) != decide (d < 0)) n.natAbs d.natAbs = none := by rw [low, if_neg (by omega)]
          rw [rMake, if_neg h1, this]
        rw [hlow]
        exact ⟨leA_refl rfl, leH_nil⟩
      · conv => whnf
        rw [wQ _ _ (by omega)] at h3
        simp only [decide_eq_false_iff_not] at h3
        have hlow : rMake n d = (⟨if (decide (n < 0) != decide (d < 0)) = true then -((n.natAbs / Nat.gcd n.natAbs d.natAbs : Nat) : Int) else ((n.natAbs / Nat.gcd n.natAbs d.natAbs : Nat) : Int), ((d.natAbs / Nat.gcd n.natAbs d.natAbs : Nat) : Int)⟩, 0) := by
          rw [rMake, if_neg h1, low, if_pos (by omega)]
        rw [hlow]
        refine brI (fun h4 => ?_) (fun h4 => ?_)
        · conv => whnf
          refine ⟨leA_tup (leL_cons (leA_agg (leL_cons (leA_int ?_) (leL_cons (leA_int ?_) leL_nil))) (leL_cons (leA_int rfl) leL_nil)), leH_nil⟩
          · rw [wQ _ _ (by omega), wN _ h2, wM _ h2]
            have : (decide (n < 0) != decide (d < 0)) = true := by revert h4; cases decide (n < 0) <;> cases decide (d < 0) <;> simp
            simp only [this, if_true]
          · rw [wQ _ _ (by omega), wN _ h3]
        · conv => whnf
          refine ⟨leA_tup (leL_cons (leA_agg (leL_cons (leA_int ?_) (leL_cons (leA_int ?_) leL_nil))) (leL_cons (leA_int rfl) leL_nil)), leH_nil⟩
          · rw [wQ _ _ (by omega), wN _ h2]
            have : (decide (n < 0) != decide (d < 0)) = false := by revert h4; cases decide (n < 0) <;> cases decide (d < 0) <;> simp
            simp only [this]; simp
          · rw [wQ _ _ (by omega), wN _ h3]
end Go.Proofs.YtnijmbnkcmhfpaaGreatDoor

/-
  Numbers: sums, differences, products, quotients.
-/
namespace Go.Proofs.YtnijmbnkcmhfpaaGreatDoor
open Go Go.Sx
set_option maxRecDepth 100000
set_option maxHeartbeats 1000000
theorem rOk_in {r : Rt} (h : rOk r = true) : rIn r := by simp [rOk] at h; exact h.1
def rOp (a b : Rt) (n d : Int) : Rt × Int := if (rOk a && rOk b) = true then rMake n d else (⟨0, 0⟩, 1)
def rAdd (a b : Rt) : Rt × Int := rOp a b (a.n * b.d + b.n * a.d) (a.d * b.d)
def rSub (a b : Rt) : Rt × Int := rOp a b (a.n * b.d - b.n * a.d) (a.d * b.d)
def rMul (a b : Rt) : Rt × Int := rOp a b (a.n * b.n) (a.d * b.d)
def rDiv (a b : Rt) : Rt × Int := rOp a b (a.n * b.d) (a.d * b.n)
abbrev rto (p : Rt × Int) : AV := .tup [rtv p.1, .int .i64 p.2]
abbrev rbl (a : Rt) : Blk := .cells [.int .i64 a.n, .int .i64 a.d]
/-- A product of numbers of ratios. -/
theorem rOp_no {a b : Rt} {n d : Int} (h : rOk a = false) : rOp a b n d = (⟨0, 0⟩, 1) := by simp [rOp, h]
theorem rOp_no2 {a b : Rt} {n d : Int} (h : rOk b = false) : rOp a b n d = (⟨0, 0⟩, 1) := by simp [rOp, h]
theorem rOp_yes {a b : Rt} {n d : Int} (h : rOk a = true) (h2 : rOk b = true) : rOp a b n d = rMake n d := by simp [rOp, h, h2]
theorem leH2 {h h' : Hp} (a b : Rt) : leH h h' [(1000002, rbl a), (1000003, rbl b)] [(1000002, rbl a), (1000003, rbl b)] := leH_cons (leB_cells (leL_cons (leA_refl rfl) (leL_cons (leA_refl rfl) leL_nil))) (leH_cons (leB_cells (leL_cons (leA_refl rfl) (leL_cons (leA_refl rfl) leL_nil))) leH_nil)
theorem mulB {x y : Int} (h1 : -1073741824 ≤ x ∧ x ≤ 1073741824) (h2 : -1073741824 ≤ y ∧ y ≤ 1073741824) : -1152921504606846976 ≤ x * y ∧ x * y ≤ 1152921504606846976 := by
  have e : (x * y).natAbs = x.natAbs * y.natAbs := Int.natAbs_mul x y
  have : x.natAbs * y.natAbs ≤ 1073741824 * 1073741824 := Nat.mul_le_mul (by omega) (by omega)
  omega
theorem mulW {x y : Int} (h1 : -1073741824 ≤ x ∧ x ≤ 1073741824) (h2 : -1073741824 ≤ y ∧ y ≤ 1073741824) : IntKind.i64.wrap (x * y) = x * y := wI (by have := mulB h1 h2; omega)

theorem f113 (a b : Rt) (ha : rIn a) (hb : rIn b) : Fn 66 [(1000002, rbl a), (1000003, rbl b)] [.ptr 1000002 0, .ptr 1000003 0] (.tup [.int .i64 (a.n * b.d + b.n * a.d), .int .i64 (a.d * b.d)]) [(1000002, rbl a), (1000003, rbl b)] := by
  refine fnT hT hmx Tryz.func66 rfl rfl (ex := []) ?_
  conv => whnf
  (refine ⟨by kernel_rfl, by kernel_rfl, ?_⟩; (conv => whnf))
  obtain ⟨a1, a2, a3, a4⟩ := ha
  obtain ⟨b1, b2, b3, b4⟩ := hb
  refine ⟨leA_tup (leL_cons (leA_int ?_) (leL_cons (leA_int ?_) leL_nil)), leH_cons (leB_cells (leL_cons (leA_refl rfl) (leL_cons (leA_refl rfl) leL_nil))) (leH_cons (leB_cells (leL_cons (leA_refl rfl) (leL_cons (leA_refl rfl) leL_nil))) leH_nil)⟩
  · have h1 := mulB (x := a.n) (y := b.d) (by omega) (by omega)
    have h2 := mulB (x := b.n) (y := a.d) (by omega) (by omega)
    rw [mulW (x := a.n) (by omega) (by omega), mulW (x := b.n) (by omega) (by omega), wI (by omega)]
  · rw [mulW (by omega) (by omega)]

theorem b113 (a b : Rt) : Fn 65 [(1000002, rbl a), (1000003, rbl b)] [rtv a, rtv b, .fn 66 [.ptr 1000002 0, .ptr 1000003 0]] (rto (rOp a b (a.n * b.d + b.n * a.d) (a.d * b.d))) [(1000002, rbl a), (1000003, rbl b)] := by
  refine fnT hT hmx Tryz.func65 rfl rfl (ex := []) ?_
  conv => whnf
  refine ⟨[], _, f54 a.n a.d, ?_⟩
  conv => whnf
  refine brI (fun h1 => ?_) (fun h1 => ?_)
  · conv => whnf
    rw [rOp_no (by simpa using h1)]
    exact ⟨leA_refl rfl, leH2 a b⟩
  · conv => whnf
    refine ⟨[], _, f54 b.n b.d, ?_⟩
    conv => whnf
    refine brI (fun h2 => ?_) (fun h2 => ?_)
    · conv => whnf
      rw [rOp_no2 (by simpa using h2)]
      exact ⟨leA_refl rfl, leH2 a b⟩
    · conv => whnf
      have ha : rOk a = true := by simpa using h1
      have hb : rOk b = true := by simpa using h2
      have ia := rOk_in ha
      have ib := rOk_in hb
      refine ⟨[rbl a, rbl b], _, f113 a b ia ib, ?_⟩
      conv => whnf
      obtain ⟨a1, a2, a3, a4⟩ := ia
      obtain ⟨b1, b2, b3, b4⟩ := ib
      refine ⟨[], _, f144 _ _ ?_ ?_, ?_⟩
      · have h1 := mulB (x := a.n) (y := b.d) (by omega) (by omega)
        have h2 := mulB (x := b.n) (y := a.d) (by omega) (by omega)
        have h3 := mulB (x := a.n) (y := b.n) (by omega) (by omega)
        omega
      · have h1 := mulB (x := a.d) (y := b.d) (by omega) (by omega)
        have h2 := mulB (x := a.d) (y := b.n) (by omega) (by omega)
        omega
      · conv => whnf
        rw [rOp_yes ha hb]
        exact ⟨leA_refl rfl, leH2 a b⟩

theorem f58 (a b : Rt) : Fn 35 [] [rtv a, rtv b] (rto (rAdd a b)) [] := by
  refine fnT hT hmx Tryz.func35 rfl rfl (ex := []) ?_
  conv => whnf
  refine ⟨[rbl a, rbl b], rto (rAdd a b), (b113 a b).sw [(2, 1000002), (3, 1000003)] rfl, ?_⟩
  conv => whnf
  exact ⟨leA_refl rfl, leH_nil⟩

theorem f143 (a b : Rt) (ha : rIn a) (hb : rIn b) : Fn 67 [(1000002, rbl a), (1000003, rbl b)] [.ptr 1000002 0, .ptr 1000003 0] (.tup [.int .i64 (a.n * b.d - b.n * a.d), .int .i64 (a.d * b.d)]) [(1000002, rbl a), (1000003, rbl b)] := by
  refine fnT hT hmx Tryz.func67 rfl rfl (ex := []) ?_
  conv => whnf
  (refine ⟨by kernel_rfl, by kernel_rfl, ?_⟩; (conv => whnf))
  obtain ⟨a1, a2, a3, a4⟩ := ha
  obtain ⟨b1, b2, b3, b4⟩ := hb
  refine ⟨leA_tup (leL_cons (leA_int ?_) (leL_cons (leA_int ?_) leL_nil)), leH_cons (leB_cells (leL_cons (leA_refl rfl) (leL_cons (leA_refl rfl) leL_nil))) (leH_cons (leB_cells (leL_cons (leA_refl rfl) (leL_cons (leA_refl rfl) leL_nil))) leH_nil)⟩
  · have h1 := mulB (x := a.n) (y := b.d) (by omega) (by omega)
    have h2 := mulB (x := b.n) (y := a.d) (by omega) (by omega)
    rw [mulW (x := a.n) (by omega) (by omega), mulW (x := b.n) (by omega) (by omega), wI (by omega)]
  · rw [mulW (by omega) (by omega)]

theorem b143 (a b : Rt) : Fn 65 [(1000002, rbl a), (1000003, rbl b)] [rtv a, rtv b, .fn 67 [.ptr 1000002 0, .ptr 1000003 0]] (rto (rOp a b (a.n * b.d - b.n * a.d) (a.d * b.d))) [(1000002, rbl a), (1000003, rbl b)] := by
  refine fnT hT hmx Tryz.func65 rfl rfl (ex := []) ?_
  conv => whnf
  refine ⟨[], _, f54 a.n a.d, ?_⟩
  conv => whnf
  refine brI (fun h1 => ?_) (fun h1 => ?_)
  · conv => whnf
    rw [rOp_no (by simpa using h1)]
    exact ⟨leA_refl rfl, leH2 a b⟩
  · conv => whnf
    refine ⟨[], _, f54 b.n b.d, ?_⟩
    conv => whnf
    refine brI (fun h2 => ?_) (fun h2 => ?_)
    · conv => whnf
      rw [rOp_no2 (by simpa using h2)]
      exact ⟨leA_refl rfl, leH2 a b⟩
    · conv => whnf
      have ha : rOk a = true := by simpa using h1
      have hb : rOk b = true := by simpa using h2
      have ia := rOk_in ha
      have ib := rOk_in hb
      refine ⟨[rbl a, rbl b], _, f143 a b ia ib, ?_⟩
      conv => whnf
      obtain ⟨a1, a2, a3, a4⟩ := ia
      obtain ⟨b1, b2, b3, b4⟩ := ib
      refine ⟨[], _, f144 _ _ ?_ ?_, ?_⟩
      · have h1 := mulB (x := a.n) (y := b.d) (by omega) (by omega)
        have h2 := mulB (x := b.n) (y := a.d) (by omega) (by omega)
        have h3 := mulB (x := a.n) (y := b.n) (by omega) (by omega)
        omega
      · have h1 := mulB (x := a.d) (y := b.d) (by omega) (by omega)
        have h2 := mulB (x := a.d) (y := b.n) (by omega) (by omega)
        omega
      · conv => whnf
        rw [rOp_yes ha hb]
        exact ⟨leA_refl rfl, leH2 a b⟩

theorem f108 (a b : Rt) : Fn 36 [] [rtv a, rtv b] (rto (rSub a b)) [] := by
  refine fnT hT hmx Tryz.func36 rfl rfl (ex := []) ?_
  conv => whnf
  refine ⟨[rbl a, rbl b], rto (rSub a b), (b143 a b).sw [(2, 1000002), (3, 1000003)] rfl, ?_⟩
  conv => whnf
  exact ⟨leA_refl rfl, leH_nil⟩

theorem f161 (a b : Rt) (ha : rIn a) (hb : rIn b) : Fn 68 [(1000002, rbl a), (1000003, rbl b)] [.ptr 1000002 0, .ptr 1000003 0] (.tup [.int .i64 (a.n * b.n), .int .i64 (a.d * b.d)]) [(1000002, rbl a), (1000003, rbl b)] := by
  refine fnT hT hmx Tryz.func68 rfl rfl (ex := []) ?_
  conv => whnf
  (refine ⟨by kernel_rfl, by kernel_rfl, ?_⟩; (conv => whnf))
  obtain ⟨a1, a2, a3, a4⟩ := ha
  obtain ⟨b1, b2, b3, b4⟩ := hb
  refine ⟨leA_tup (leL_cons (leA_int ?_) (leL_cons (leA_int ?_) leL_nil)), leH_cons (leB_cells (leL_cons (leA_refl rfl) (leL_cons (leA_refl rfl) leL_nil))) (leH_cons (leB_cells (leL_cons (leA_refl rfl) (leL_cons (leA_refl rfl) leL_nil))) leH_nil)⟩
  · rw [mulW (by omega) (by omega)]
  · rw [mulW (by omega) (by omega)]

theorem b161 (a b : Rt) : Fn 65 [(1000002, rbl a), (1000003, rbl b)] [rtv a, rtv b, .fn 68 [.ptr 1000002 0, .ptr 1000003 0]] (rto (rOp a b (a.n * b.n) (a.d * b.d))) [(1000002, rbl a), (1000003, rbl b)] := by
  refine fnT hT hmx Tryz.func65 rfl rfl (ex := []) ?_
  conv => whnf
  refine ⟨[], _, f54 a.n a.d, ?_⟩
  conv => whnf
  refine brI (fun h1 => ?_) (fun h1 => ?_)
  · conv => whnf
    rw [rOp_no (by simpa using h1)]
    exact ⟨leA_refl rfl, leH2 a b⟩
  · conv => whnf
    refine ⟨[], _, f54 b.n b.d, ?_⟩
    conv => whnf
    refine brI (fun h2 => ?_) (fun h2 => ?_)
    · conv => whnf
      rw [rOp_no2 (by simpa using h2)]
      exact ⟨leA_refl rfl, leH2 a b⟩
    · conv => whnf
      have ha : rOk a = true := by simpa using h1
      have hb : rOk b = true := by simpa using h2
      have ia := rOk_in ha
      have ib := rOk_in hb
      refine ⟨[rbl a, rbl b], _, f161 a b ia ib, ?_⟩
      conv => whnf
      obtain ⟨a1, a2, a3, a4⟩ := ia
      obtain ⟨b1, b2, b3, b4⟩ := ib
      refine ⟨[], _, f144 _ _ ?_ ?_, ?_⟩
      · have h1 := mulB (x := a.n) (y := b.d) (by omega) (by omega)
        have h2 := mulB (x := b.n) (y := a.d) (by omega) (by omega)
        have h3 := mulB (x := a.n) (y := b.n) (by omega) (by omega)
        omega
      · have h1 := mulB (x := a.d) (y := b.d) (by omega) (by omega)
        have h2 := mulB (x := a.d) (y := b.n) (by omega) (by omega)
        omega
      · conv => whnf
        rw [rOp_yes ha hb]
        exact ⟨leA_refl rfl, leH2 a b⟩

theorem f142 (a b : Rt) : Fn 37 [] [rtv a, rtv b] (rto (rMul a b)) [] := by
  refine fnT hT hmx Tryz.func37 rfl rfl (ex := []) ?_
  conv => whnf
  refine ⟨[rbl a, rbl b], rto (rMul a b), (b161 a b).sw [(2, 1000002), (3, 1000003)] rfl, ?_⟩
  conv => whnf
  exact ⟨leA_refl rfl, leH_nil⟩

theorem f112 (a b : Rt) (ha : rIn a) (hb : rIn b) : Fn 69 [(1000002, rbl a), (1000003, rbl b)] [.ptr 1000002 0, .ptr 1000003 0] (.tup [.int .i64 (a.n * b.d), .int .i64 (a.d * b.n)]) [(1000002, rbl a), (1000003, rbl b)] := by
  refine fnT hT hmx Tryz.func69 rfl rfl (ex := []) ?_
  conv => whnf
  (refine ⟨by kernel_rfl, by kernel_rfl, ?_⟩; (conv => whnf))
  obtain ⟨a1, a2, a3, a4⟩ := ha
  obtain ⟨b1, b2, b3, b4⟩ := hb
  refine ⟨leA_tup (leL_cons (leA_int ?_) (leL_cons (leA_int ?_) leL_nil)), leH_cons (leB_cells (leL_cons (leA_refl rfl) (leL_cons (leA_refl rfl) leL_nil))) (leH_cons (leB_cells (leL_cons (leA_refl rfl) (leL_cons (leA_refl rfl) leL_nil))) leH_nil)⟩
  · rw [mulW (by omega) (by omega)]
  · rw [mulW (by omega) (by omega)]

theorem b112 (a b : Rt) : Fn 65 [(1000002, rbl a), (1000003, rbl b)] [rtv a, rtv b, .fn 69 [.ptr 1000002 0, .ptr 1000003 0]] (rto (rOp a b (a.n * b.d) (a.d * b.n))) [(1000002, rbl a), (1000003, rbl b)] := by
  refine fnT hT hmx Tryz.func65 rfl rfl (ex := []) ?_
  conv => whnf
  refine ⟨[], _, f54 a.n a.d, ?_⟩
  conv => whnf
  refine brI (fun h1 => ?_) (fun h1 => ?_)
  · conv => whnf
    rw [rOp_no (by simpa using h1)]
    exact ⟨leA_refl rfl, leH2 a b⟩
  · conv => whnf
    refine ⟨[], _, f54 b.n b.d, ?_⟩
    conv => whnf
    refine brI (fun h2 => ?_) (fun h2 => ?_)
    · conv => whnf
      rw [rOp_no2 (by simpa using h2)]
      exact ⟨leA_refl rfl, leH2 a b⟩
    · conv => whnf
      have ha : rOk a = true := by simpa using h1
      have hb : rOk b = true := by simpa using h2
      have ia := rOk_in ha
      have ib := rOk_in hb
      refine ⟨[rbl a, rbl b], _, f112 a b ia ib, ?_⟩
      conv => whnf
      obtain ⟨a1, a2, a3, a4⟩ := ia
      obtain ⟨b1, b2, b3, b4⟩ := ib
      refine ⟨[], _, f144 _ _ ?_ ?_, ?_⟩
      · have h1 := mulB (x := a.n) (y := b.d) (by omega) (by omega)
        have h2 := mulB (x := b.n) (y := a.d) (by omega) (by omega)
        have h3 := mulB (x := a.n) (y := b.n) (by omega) (by omega)
        omega
      · have h1 := mulB (x := a.d) (y := b.d) (by omega) (by omega)
        have h2 := mulB (x := a.d) (y := b.n) (by omega) (by omega)
        omega
      · conv => whnf
        rw [rOp_yes ha hb]
        exact ⟨leA_refl rfl, leH2 a b⟩

theorem f57 (a b : Rt) : Fn 38 [] [rtv a, rtv b] (rto (rDiv a b)) [] := by
  refine fnT hT hmx Tryz.func38 rfl rfl (ex := []) ?_
  conv => whnf
  refine ⟨[rbl a, rbl b], rto (rDiv a b), (b112 a b).sw [(2, 1000002), (3, 1000003)] rfl, ?_⟩
  conv => whnf
  exact ⟨leA_refl rfl, leH_nil⟩

end Go.Proofs.YtnijmbnkcmhfpaaGreatDoor

/-
  Numbers of the reference.
-/
namespace Go.Proofs.YtnijmbnkcmhfpaaGreatDoor
open Go Go.Sx
set_option maxRecDepth 100000
set_option maxHeartbeats 1000000
theorem f155' (a : Nat) (d : Int) (ha : a < 18446744073709551616) (hb : 0 ≤ d ∧ d < 18446744073709551616) : Fn 43 [] [.int .u64 a, .int .u64 (IntKind.u64.wrap d)] (.int .u64 (Nat.gcd a d.natAbs : Int)) [] := by
  have h := f155 a d.natAbs ha (by omega)
  rwa [show ((d.natAbs : Nat) : Int) = IntKind.u64.wrap d by rw [wU (by omega)]; omega] at h
theorem f131 (n d : Int) : Fn 21 [] [.agg [.int .i64 n, .int .i64 d]] (.bool (rOk ⟨n, d⟩)) [] := by
  refine fnT hT hmx Tryz.func21 rfl rfl (ex := []) ?_
  conv => whnf
  refine brI (fun h1 => ?_) (fun h1 => ?_)
  · conv => whnf
    refine brI (fun h2 => ?_) (fun h2 => ?_)
    · conv => whnf
      refine brI (fun h3 => ?_) (fun h3 => ?_)
      · conv => whnf
        refine brI (fun h4 => ?_) (fun h4 => ?_)
        · conv => whnf
          simp only [decide_eq_true_eq] at h1 h2 h3 h4
          refine ⟨[], _, f156 n (by omega), ?_⟩
          conv => whnf
          refine ⟨[], _, f155' n.natAbs d (by omega) (by omega), ?_⟩
          conv => whnf
          (refine ⟨by kernel_rfl, by kernel_rfl, ?_⟩; (conv => whnf))
          refine ⟨leA_bool ?_, leH_nil⟩
          have : rIn ⟨n, d⟩ := ⟨h1, h2, h3, h4⟩
          simp only [rOk, this, decide_true, Bool.true_and]
          rw [Bool.eq_iff_iff]; simp; omega
        · conv => whnf
          (refine ⟨by kernel_rfl, by kernel_rfl, ?_⟩; (conv => whnf))
          exact ⟨leA_bool (rOk_no fun h => by simp [rIn] at h h4; omega), leH_nil⟩
      · conv => whnf
        (refine ⟨by kernel_rfl, by kernel_rfl, ?_⟩; (conv => whnf))
        exact ⟨leA_bool (rOk_no fun h => by simp [rIn] at h h3; omega), leH_nil⟩
    · conv => whnf
      (refine ⟨by kernel_rfl, by kernel_rfl, ?_⟩; (conv => whnf))
      exact ⟨leA_bool (rOk_no fun h => by simp [rIn] at h h2; omega), leH_nil⟩
  · conv => whnf
    (refine ⟨by kernel_rfl, by kernel_rfl, ?_⟩; (conv => whnf))
    exact ⟨leA_bool (rOk_no fun h => by simp [rIn] at h h1; omega), leH_nil⟩


/-- What the reference's checked returns. -/
def chk (neg : Bool) (a b : Nat) : Rt × Int := match low neg a b with
  | none => (⟨0, 0⟩, 9)
  | some r => (r, 0)
def lowV (neg : Bool) (a b : Nat) : AV := match low neg a b with
  | none => .tup [rtv ⟨0, 0⟩, .bool false]
  | some r => .tup [rtv r, .bool true]
theorem f176 (neg : Bool) (a b : Nat) (ha : a < 18446744073709551616) (hb : b < 18446744073709551616) (hb0 : b ≠ 0) :
    Fn 117 [] [.bool neg, .int .u64 a, .int .u64 b] (lowV neg a b) [] := by
  refine fnT hT hmx Tryz.func117 rfl rfl (ex := []) ?_
  conv => whnf
  refine ⟨[], _, f155 a b ha hb, ?_⟩
  conv => whnf
  have hg0 : Nat.gcd a b ≠ 0 := fun e => hb0 (Nat.eq_zero_of_gcd_eq_zero_right e)
  refine ⟨by omega, ?_⟩
  conv => whnf
  refine ⟨by omega, ?_⟩
  conv => whnf
  (refine ⟨by kernel_rfl, by kernel_rfl, ?_⟩; (conv => whnf))
  refine brI (fun h2 => ?_) (fun h2 => ?_)
  · conv => whnf
    rw [wQ _ _ (by omega)] at h2
    simp only [decide_eq_true_eq] at h2
    rw [lowV, low, if_neg (by omega)]
    exact ⟨leA_refl rfl, leH_nil⟩
  · conv => whnf
    rw [wQ _ _ (by omega)] at h2
    simp only [decide_eq_false_iff_not] at h2
    refine brI (fun h3 => ?_) (fun h3 => ?_)
    · conv => whnf
      rw [wQ _ _ (by omega)] at h3
      simp only [decide_eq_true_eq] at h3
      rw [lowV, low, if_neg (by omega)]
      exact ⟨leA_refl rfl, leH_nil⟩
    · conv => whnf
      rw [wQ _ _ (by omega)] at h3
      simp only [decide_eq_false_iff_not] at h3
      rw [lowV, low, if_pos (by omega)]
      refine brI (fun h4 => ?_) (fun h4 => ?_)
      · conv => whnf
        subst h4
        refine ⟨leA_tup (leL_cons (leA_agg (leL_cons (leA_int ?_) (leL_cons (leA_int ?_) leL_nil))) (leL_cons (leA_refl rfl) leL_nil)), leH_nil⟩
        · rw [wQ _ _ (by omega), wN _ h2, wM _ h2]; simp only [if_true]
        · rw [wQ _ _ (by omega), wN _ h3]
      · conv => whnf
        subst h4
        refine ⟨leA_tup (leL_cons (leA_agg (leL_cons (leA_int ?_) (leL_cons (leA_int ?_) leL_nil))) (leL_cons (leA_refl rfl) leL_nil)), leH_nil⟩
        · rw [wQ _ _ (by omega), wN _ h2]; simp
        · rw [wQ _ _ (by omega), wN _ h3]
theorem f162 (neg : Bool) (a b : Nat) (ha : a < 18446744073709551616) (hb : b < 18446744073709551616) (hb0 : b ≠ 0) :
    Fn 72 [] [.bool neg, .int .u64 a, .int .u64 b] (rto (chk neg a b)) [] := by
  have h := f176 neg a b ha hb hb0
  cases e : low neg a b with
  | none =>
    simp only [lowV, e] at h
    refine fnT hT hmx Tryz.func72 rfl rfl (ex := []) ?_
    conv => whnf
    refine ⟨[], _, h, ?_⟩
    conv => whnf
    simp only [chk, e]
    exact ⟨leA_refl rfl, leH_nil⟩
  | some r =>
    simp only [lowV, e] at h
    refine fnT hT hmx Tryz.func72 rfl rfl (ex := []) ?_
    conv => whnf
    refine ⟨[], _, h, ?_⟩
    conv => whnf
    simp only [chk, e]
    exact ⟨leA_refl rfl, leH_nil⟩
end Go.Proofs.YtnijmbnkcmhfpaaGreatDoor

/-
  The reference's sums, differences, products, quotients.
-/
namespace Go.Proofs.YtnijmbnkcmhfpaaGreatDoor
open Go Go.Sx
set_option maxRecDepth 100000
set_option maxHeartbeats 1000000
theorem rMake_chk {n d : Int} (h : d ≠ 0) : rMake n d = chk (decide (n < 0) != decide (d < 0)) n.natAbs d.natAbs := by
  rw [rMake, if_neg h]; rfl
theorem rMake_pos {n d : Int} (h : 0 < d) : rMake n d = chk (decide (n < 0)) n.natAbs d.natAbs := by
  rw [rMake_chk (by omega), show decide (d < 0) = false by simp; omega]; simp
theorem mulP {x y : Int} (h1 : 1 ≤ x ∧ x ≤ 1073741824) (h2 : 1 ≤ y ∧ y ≤ 1073741824) : 1 ≤ x * y ∧ x * y ≤ 1152921504606846976 := by
  have h3 := mulB (x := x) (y := y) (by omega) (by omega)
  have := Int.mul_pos (a := x) (b := y) (by omega) (by omega)
  omega
/-- The product of two denominators, as a machine's number without sign. -/
theorem denW {x y : Int} (h1 : 1 ≤ x ∧ x ≤ 1073741824) (h2 : 1 ≤ y ∧ y ≤ 1073741824) : IntKind.u64.wrap (IntKind.u64.wrap x * IntKind.u64.wrap y) = (((x * y).natAbs : Nat) : Int) := by
  have h := mulP h1 h2
  rw [wU (x := x) (by omega), wU (x := y) (by omega), wU (by omega)]; omega
theorem f162p (n x y : Int) (h1 : 1 ≤ x ∧ x ≤ 1073741824) (h2 : 1 ≤ y ∧ y ≤ 1073741824) (hn : -9223372036854775808 ≤ n ∧ n ≤ 9223372036854775807) :
    Fn 72 [] [.bool (decide (n < 0)), .int .u64 n.natAbs, .int .u64 (IntKind.u64.wrap (IntKind.u64.wrap x * IntKind.u64.wrap y))] (rto (rMake n (x * y))) [] := by
  have h := mulP h1 h2
  rw [denW h1 h2, rMake_pos (by omega)]
  exact f162 _ _ _ (by omega) (by omega) (by omega)
theorem f148 (a b : Rt) : Fn 46 [] [rtv a, rtv b] (rto (rAdd a b)) [] := by
  refine fnT hT hmx Tryz.func46 rfl rfl (ex := []) ?_
  conv => whnf
  refine ⟨[], _, f131 a.n a.d, ?_⟩
  conv => whnf
  refine brI (fun h1 => ?_) (fun h1 => ?_)
  · conv => whnf
    rw [rAdd, rOp_no (by simpa using h1)]
    exact ⟨leA_refl rfl, leH_nil⟩
  · conv => whnf
    refine ⟨[], _, f131 b.n b.d, ?_⟩
    conv => whnf
    refine brI (fun h2 => ?_) (fun h2 => ?_)
    · conv => whnf
      rw [rAdd, rOp_no2 (by simpa using h2)]
      exact ⟨leA_refl rfl, leH_nil⟩
    · have ha : rOk a = true := by simpa using h1
      have hb : rOk b = true := by simpa using h2
      obtain ⟨a1, a2, a3, a4⟩ := rOk_in ha
      obtain ⟨b1, b2, b3, b4⟩ := rOk_in hb
      conv => whnf
      have e1 := mulB (x := a.n) (y := b.d) (by omega) (by omega)
      have e2 := mulB (x := b.n) (y := a.d) (by omega) (by omega)
      have e3 := mulB (x := a.n) (y := b.n) (by omega) (by omega)
      rw [mulW (x := a.n) (y := b.d) (by omega) (by omega), mulW (x := b.n) (y := a.d) (by omega) (by omega), wI (x := a.n * b.d + b.n * a.d) (by omega)]
      refine ⟨[], _, f156 (a.n * b.d + b.n * a.d) (by omega), ?_⟩
      conv => whnf
      refine ⟨[], _, f162p (a.n * b.d + b.n * a.d) a.d b.d ⟨a1, a2⟩ ⟨b1, b2⟩ (by omega), ?_⟩
      conv => whnf
      (refine ⟨by kernel_rfl, by kernel_rfl, ?_⟩; (conv => whnf))
      rw [rAdd, rOp_yes ha hb]
      exact ⟨leA_refl rfl, leH_nil⟩
theorem f150 (a b : Rt) : Fn 45 [] [rtv a, rtv b] (rto (rMul a b)) [] := by
  refine fnT hT hmx Tryz.func45 rfl rfl (ex := []) ?_
  conv => whnf
  refine ⟨[], _, f131 a.n a.d, ?_⟩
  conv => whnf
  refine brI (fun h1 => ?_) (fun h1 => ?_)
  · conv => whnf
    rw [rMul, rOp_no (by simpa using h1)]
    exact ⟨leA_refl rfl, leH_nil⟩
  · conv => whnf
    refine ⟨[], _, f131 b.n b.d, ?_⟩
    conv => whnf
    refine brI (fun h2 => ?_) (fun h2 => ?_)
    · conv => whnf
      rw [rMul, rOp_no2 (by simpa using h2)]
      exact ⟨leA_refl rfl, leH_nil⟩
    · have ha : rOk a = true := by simpa using h1
      have hb : rOk b = true := by simpa using h2
      obtain ⟨a1, a2, a3, a4⟩ := rOk_in ha
      obtain ⟨b1, b2, b3, b4⟩ := rOk_in hb
      conv => whnf
      have e1 := mulB (x := a.n) (y := b.d) (by omega) (by omega)
      have e2 := mulB (x := b.n) (y := a.d) (by omega) (by omega)
      have e3 := mulB (x := a.n) (y := b.n) (by omega) (by omega)
      rw [mulW (x := a.n) (y := b.n) (by omega) (by omega)]
      refine ⟨[], _, f156 (a.n * b.n) (by omega), ?_⟩
      conv => whnf
      refine ⟨[], _, f162p (a.n * b.n) a.d b.d ⟨a1, a2⟩ ⟨b1, b2⟩ (by omega), ?_⟩
      conv => whnf
      (refine ⟨by kernel_rfl, by kernel_rfl, ?_⟩; (conv => whnf))
      rw [rMul, rOp_yes ha hb]
      exact ⟨leA_refl rfl, leH_nil⟩
theorem rOk_neg (n d : Int) : rOk ⟨-n, d⟩ = rOk ⟨n, d⟩ := by
  have e : rIn ⟨-n, d⟩ ↔ rIn ⟨n, d⟩ := by
    constructor <;> (intro ⟨h1, h2, h3, h4⟩; simp only at h1 h2 h3 h4; exact ⟨h1, h2, by simp only; omega, by simp only; omega⟩)
  simp only [rOk, Int.natAbs_neg, e]
theorem rSub_add (a b : Rt) : rAdd a ⟨-b.n, b.d⟩ = rSub a b := by
  have e : rOk ⟨-b.n, b.d⟩ = rOk b := rOk_neg b.n b.d
  simp only [rAdd, rSub, rOp, e, Int.neg_mul, ← Int.sub_eq_add_neg]
theorem f149 (a b : Rt) : Fn 47 [] [rtv a, rtv b] (rto (rSub a b)) [] := by
  refine fnT hT hmx Tryz.func47 rfl rfl (ex := []) ?_
  conv => whnf
  refine ⟨[], _, f131 b.n b.d, ?_⟩
  conv => whnf
  refine brI (fun h1 => ?_) (fun h1 => ?_)
  · conv => whnf
    rw [rSub, rOp_no2 (by simpa using h1)]
    exact ⟨leA_refl rfl, leH_nil⟩
  · have hb : rOk b = true := by simpa using h1
    obtain ⟨b1, b2, b3, b4⟩ := rOk_in hb
    conv => whnf
    rw [wI (x := 0 - b.n) (by omega), show (0 - b.n) = -b.n by omega]
    refine ⟨[], _, f148 a ⟨-b.n, b.d⟩, ?_⟩
    conv => whnf
    rw [rSub_add]
    exact ⟨leA_refl rfl, leH_nil⟩
theorem f151 (a b : Rt) : Fn 48 [] [rtv a, rtv b] (rto (rDiv a b)) [] := by
  refine fnT hT hmx Tryz.func48 rfl rfl (ex := []) ?_
  conv => whnf
  refine ⟨[], _, f131 a.n a.d, ?_⟩
  conv => whnf
  refine brI (fun h1 => ?_) (fun h1 => ?_)
  · conv => whnf
    rw [rDiv, rOp_no (by simpa using h1)]
    exact ⟨leA_refl rfl, leH_nil⟩
  · conv => whnf
    refine ⟨[], _, f131 b.n b.d, ?_⟩
    conv => whnf
    refine brI (fun h2 => ?_) (fun h2 => ?_)
    · conv => whnf
      rw [rDiv, rOp_no2 (by simpa using h2)]
      exact ⟨leA_refl rfl, leH_nil⟩
    · have ha : rOk a = true := by simpa using h1
      have hb : rOk b = true := by simpa using h2
      obtain ⟨a1, a2, a3, a4⟩ := rOk_in ha
      obtain ⟨b1, b2, b3, b4⟩ := rOk_in hb
      conv => whnf
      refine brI (fun h3 => ?_) (fun h3 => ?_)
      · conv => whnf
        have h3 : b.n = 0 := by simpa using h3
        rw [rDiv, rOp_yes ha hb, rMake, if_pos (by rw [h3]; simp)]
        exact ⟨leA_refl rfl, leH_nil⟩
      · have h3 : b.n ≠ 0 := by simpa using h3
        conv => whnf
        (refine ⟨by kernel_rfl, by kernel_rfl, ?_⟩; (conv => whnf))
        have e1 := mulB (x := a.n) (y := b.d) (by omega) (by omega)
        have e2 := mulB (x := a.d) (y := b.n) (by omega) (by omega)
        have e3 : a.d * b.n ≠ 0 := Int.mul_ne_zero (by omega) h3
        rw [mulW (x := a.n) (y := b.d) (by omega) (by omega), mulW (x := a.d) (y := b.n) (by omega) (by omega)]
        refine ⟨[], _, f156 (a.n * b.d) (by omega), ?_⟩
        conv => whnf
        refine ⟨[], _, f156 (a.d * b.n) (by omega), ?_⟩
        conv => whnf
        refine ⟨[], _, f162 _ _ _ (by omega) (by omega) (by omega), ?_⟩
        conv => whnf
        have e : (!decide (a.n * b.d < 0) == decide (a.d * b.n < 0)) = (decide (a.n * b.d < 0) != decide (a.d * b.n < 0)) := by
          cases decide (a.n * b.d < 0) <;> cases decide (a.d * b.n < 0) <;> rfl
        rw [rDiv, rOp_yes ha hb, rMake_chk e3, ← e]
        exact ⟨leA_refl rfl, leH_nil⟩
end Go.Proofs.YtnijmbnkcmhfpaaGreatDoor
