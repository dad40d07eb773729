/-
  The seat's type table; how a contract is proved.
-/
import Derived.Test.YtmcdnbmamoggoaaGreatQZz
import Derived.Test.YtmcdnbmamoggoaaGreatChecked
set_option linter.unusedVariables false
set_option linter.unusedSimpArgs false
namespace Go.Proofs.YtmcdnbmamoggoaaGreat
open Go Go.Sx
def Ty : List (Nat × TI) := [
  (3, ⟨1, 1, [], 0, 0, 0, some .int, .i64, [.int .i64 0], 8, false⟩),
  (40, ⟨2, 6, [(0, 1, false), (1, 2, true), (3, 1, false), (4, 1, false), (5, 1, false)], 0, 0, 0, some .ex, .i64, [.int .i64 0, .int .i64 0, .int .i64 0, .str [], .int .i64 0, .nilsl], 72, false⟩),
  (9, ⟨5, 1, [], 0, 0, 0, some .str, .i64, [.str []], 16, false⟩),
  (29, ⟨2, 3, [(0, 1, false), (1, 1, false), (2, 1, false)], 0, 0, 0, none, .i64, [.int .i64 0, .nilsl, .nilsl], 56, false⟩),
  (23, ⟨3, 1, [], 9, 1, 0, none, .i64, [.nilsl], 24, false⟩),
  (50, ⟨2, 6, [(0, 1, false), (1, 1, false), (2, 1, false), (3, 1, false), (4, 2, true)], 0, 0, 0, some .op, .i64, [.int .i64 0, .int .i64 0, .int .i64 0, .int .i64 0, .int .i64 0, .int .i64 0], 48, true⟩),
  (22, ⟨3, 1, [], 40, 6, 0, none, .i64, [.nilsl], 24, false⟩),
  (26, ⟨3, 1, [], 50, 6, 0, none, .i64, [.nilsl], 24, false⟩),
  (4, ⟨6, 1, [], 0, 0, 0, some .bool, .i64, [.bool false], 1, false⟩),
  (38, ⟨2, 2, [(0, 1, false), (1, 1, false)], 0, 0, 0, some .rat, .i64, [.int .i64 0, .int .i64 0], 16, true⟩),
  (27, ⟨3, 1, [], 3, 1, 0, none, .i64, [.nilsl], 24, false⟩),
  (5, ⟨1, 1, [], 0, 0, 0, none, .u8, [.int .u8 0], 1, false⟩),
  (111, ⟨1, 1, [], 0, 0, 0, none, .u64, [.int .u64 0], 8, false⟩),
  (129, ⟨1, 1, [], 0, 0, 0, none, .u64, [.int .u64 0], 8, false⟩),
  (65, ⟨2, 4, [(0, 3, true), (3, 1, false)], 0, 0, 0, none, .i64, [.int .i64 0, .nilsl, .nilsl, .nilm], 64, false⟩),
  (106, ⟨1, 1, [], 0, 0, 0, none, .u64, [.int .u64 0], 8, false⟩),
  (125, ⟨1, 1, [], 0, 0, 0, some .u32, .u32, [.int .u32 0], 4, false⟩),
  (61, ⟨7, 1, [], 65, 0, 0, none, .i64, [.nilp], 8, false⟩),
  (55, ⟨8, 1, [], 0, 0, 0, none, .i64, [.nilf], 8, false⟩),
  (72, ⟨7, 1, [], 3, 0, 0, none, .i64, [.nilp], 8, false⟩),
  (30, ⟨1, 1, [], 0, 0, 0, none, .i64, [.int .i64 0], 8, false⟩),
  (117, ⟨1, 1, [], 0, 0, 0, none, .i64, [.int .i64 0], 8, false⟩)]
def T : Tab := { ty := Ty, of := [52, 53], nb := [(51, 1), (53, 1), (55, 1), (56, 1), (88, 1)] }
theorem hmx : Tryz.prog.follows .mixedOrders = true := by kernel_rfl
theorem hT : TabOK Tryz.prog T := tab_ok (by kernel_rfl) (by kernel_rfl)
/-- A contract of a function of this program. -/
abbrev Fn (f : Nat) (H : Hp) (A : List AV) (r : AV) (H' : Hp) : Prop := FnOK Tryz.prog f H A r H'
end Go.Proofs.YtmcdnbmamoggoaaGreat

/-
  Numbers: the greatest common divisor, ratios.
-/
namespace Go.Proofs.YtmcdnbmamoggoaaGreat
open Go Go.Sx
set_option maxRecDepth 100000
set_option maxHeartbeats 1000000

theorem f105 (n : Int) (h : -9223372036854775808 ≤ n ∧ n ≤ 9223372036854775807) : Fn 83 [] [.int .i64 n] (.int .u64 (n.natAbs : Int)) [] := by
  refine fnT hT hmx Tryz.func83 rfl rfl (ex := []) ?_
  conv => whnf
  refine brI (fun hb => ?_) (fun hb => ?_)
  · conv => whnf
    simp at hb
    refine ⟨leA_int ?_, leH_nil⟩
    rcases Decidable.em (n = -9223372036854775808) with e | e
    · subst e; rfl
    · rw [wI (by omega), wU (by omega)]; omega
  · conv => whnf
    simp at hb
    refine ⟨leA_int ?_, leH_nil⟩
    rw [wU (by omega)]; omega

theorem tmodNat (a b : Nat) : Int.tmod (a : Int) (b : Int) = ((a % b : Nat) : Int) := by
  rw [Int.tmod_eq_emod_of_nonneg (by omega)]; rfl
theorem tdivNat (a b : Nat) : Int.tdiv (a : Int) (b : Int) = ((a / b : Nat) : Int) := by
  rw [Int.tdiv_eq_ediv_of_nonneg (by omega)]; rfl

theorem f104 (a b : Nat) (ha : a < 18446744073709551616) (hb : b < 18446744073709551616) : Fn 82 [] [.int .u64 a, .int .u64 b] (.int .u64 (Nat.gcd a b : Int)) [] := by
  refine fnT hT hmx Tryz.func82 rfl rfl (ex := []) ?_
  conv => whnf
  refine ⟨Nat × Nat, fun x => Nat.gcd x.1 x.2 = Nat.gcd a b ∧ x.1 < 18446744073709551616 ∧ x.2 < 18446744073709551616, fun x => [(0, .int .u64 x.1), (1, .int .u64 x.2)], fun _ => [], fun x => x.2, (a, b), ⟨rfl, ha, hb⟩, ?_, fun x hx => ?_⟩
  · ((conv => whnf); refine ⟨?_, leH_nil⟩; repeat' first | exact leL_nil | exact leA_any | exact leA_refl rfl | refine leL_cons ?_ ?_)
  · obtain ⟨hg, h1, h2⟩ := hx
    (refine ⟨by kernel_rfl, ?_⟩; (conv => whnf))
    refine brI (fun hb => ?_) (fun hb => ?_)
    · conv => whnf
      simp at hb
      refine ⟨by omega, ?_⟩
      conv => whnf
      (refine ⟨by kernel_rfl, by kernel_rfl, ?_⟩; (conv => whnf))
      refine ⟨(x.2, x.1 % x.2), ⟨?_, h2, ?_⟩, ?_, ?_⟩
      · rw [← hg]; show Nat.gcd x.2 (x.1 % x.2) = _; rw [Nat.gcd_comm x.1 x.2, Nat.gcd_comm x.2 (x.1 % x.2)]; exact (Nat.gcd_rec _ _).symm
      · have := Nat.mod_lt x.1 (Nat.pos_of_ne_zero hb); omega
      · exact Nat.mod_lt x.1 (Nat.pos_of_ne_zero hb)
      · ((conv => whnf); refine ⟨?_, leH_nil⟩; repeat' first | exact leL_nil | exact leA_any | exact leA_refl rfl | refine leL_cons ?_ ?_)
    · conv => whnf
      simp at hb
      refine ⟨leA_int ?_, leH_nil⟩
      rw [← hg, hb, Nat.gcd_zero_right]
theorem wQ (a g : Nat) (ha : a < 18446744073709551616) : IntKind.u64.wrap (Int.tdiv (a : Int) (g : Int)) = ((a / g : Nat) : Int) := by
  have := Nat.div_le_self a g
  rw [tdivNat]
  generalize a / g = c at *
  rw [wU]; omega

theorem f155 (a b : Nat) (ha : a < 18446744073709551616) (hb : b < 18446744073709551616) : Fn 104 [] [.int .u64 a, .int .u64 b] (.int .u64 (Nat.gcd a b : Int)) [] := by
  refine fnT hT hmx Tryz.func104 rfl rfl (ex := []) ?_
  conv => whnf
  refine ⟨Nat × Nat, fun x => Nat.gcd x.1 x.2 = Nat.gcd a b ∧ x.1 < 18446744073709551616 ∧ x.2 < 18446744073709551616, fun x => [(0, .int .u64 x.1), (1, .int .u64 x.2)], fun _ => [], fun x => x.2, (a, b), ⟨rfl, ha, hb⟩, ?_, fun x hx => ?_⟩
  · ((conv => whnf); refine ⟨?_, leH_nil⟩; repeat' first | exact leL_nil | exact leA_any | exact leA_refl rfl | refine leL_cons ?_ ?_)
  · obtain ⟨hg, h1, h2⟩ := hx
    (refine ⟨by kernel_rfl, ?_⟩; (conv => whnf))
    refine brI (fun hb => ?_) (fun hb => ?_)
    · conv => whnf
      simp at hb
      refine ⟨by omega, ?_⟩
      conv => whnf
      (refine ⟨by kernel_rfl, by kernel_rfl, ?_⟩; (conv => whnf))
      refine ⟨(x.2, x.1 % x.2), ⟨?_, h2, ?_⟩, ?_, ?_⟩
      · rw [← hg]; show Nat.gcd x.2 (x.1 % x.2) = _; rw [Nat.gcd_comm x.1 x.2, Nat.gcd_comm x.2 (x.1 % x.2)]; exact (Nat.gcd_rec _ _).symm
      · have := Nat.mod_lt x.1 (Nat.pos_of_ne_zero hb); omega
      · exact Nat.mod_lt x.1 (Nat.pos_of_ne_zero hb)
      · ((conv => whnf); refine ⟨?_, leH_nil⟩; repeat' first | exact leL_nil | exact leA_any | exact leA_refl rfl | refine leL_cons ?_ ?_)
    · conv => whnf
      simp at hb
      refine ⟨leA_int ?_, leH_nil⟩
      rw [← hg, hb, Nat.gcd_zero_right]

theorem f156 (n : Int) (h : -9223372036854775808 ≤ n ∧ n ≤ 9223372036854775807) : Fn 105 [] [.int .i64 n] (.int .u64 (n.natAbs : Int)) [] := by
  refine fnT hT hmx Tryz.func105 rfl rfl (ex := []) ?_
  conv => whnf
  refine brI (fun hb => ?_) (fun hb => ?_)
  · conv => whnf
    simp at hb
    refine ⟨leA_int ?_, leH_nil⟩
    rw [wI (x := n + 1) (by omega), wI (by omega), wU (x := 0 - (n + 1)) (by omega), wU (by omega)]; omega
  · conv => whnf
    simp at hb
    refine ⟨leA_int ?_, leH_nil⟩
    rw [wU (by omega)]; omega
theorem wN (c : Nat) (h : ¬ ((c : Int) > 1073741824)) : IntKind.i64.wrap (c : Int) = (c : Int) := wI (by omega)
theorem wM (c : Nat) (h : ¬ ((c : Int) > 1073741824)) : IntKind.i64.wrap (0 - (c : Int)) = -(c : Int) := by rw [wI (by omega)]; omega
end Go.Proofs.YtmcdnbmamoggoaaGreat

/-
  Numbers: ratios.
-/
namespace Go.Proofs.YtmcdnbmamoggoaaGreat
open Go Go.Sx
set_option maxRecDepth 100000
set_option maxHeartbeats 1000000
/-- A ratio is valid. -/
def rIn (r : Rt) : Prop := 1 ≤ r.d ∧ r.d ≤ 1073741824 ∧ -1073741824 ≤ r.n ∧ r.n ≤ 1073741824
instance (r : Rt) : Decidable (rIn r) := by unfold rIn; infer_instance
def rOk (r : Rt) : Bool := decide (rIn r) && (Nat.gcd r.n.natAbs r.d.natAbs == 1)
theorem rOk_no {r : Rt} (h : ¬ rIn r) : false = rOk r := by simp [rOk, h]
theorem f54 (n d : Int) : Fn 65 [] [.agg [.int .i64 n, .int .i64 d]] (.bool (rOk ⟨n, d⟩)) [] := by
  refine fnT hT hmx Tryz.func65 rfl rfl (ex := []) ?_
  conv => whnf
  refine brI (fun h1 => ?_) (fun h1 => ?_)
  · conv => whnf
    refine brI (fun h2 => ?_) (fun h2 => ?_)
    · conv => whnf
      refine brI (fun h3 => ?_) (fun h3 => ?_)
      · conv => whnf
        refine brI (fun h4 => ?_) (fun h4 => ?_)
        · conv => whnf
          simp only [decide_eq_true_eq] at h1 h2 h3 h4
          refine ⟨[], _, f105 n (by omega), ?_⟩
          conv => whnf
          refine ⟨[], _, f105 d (by omega), ?_⟩
          conv => whnf
          refine ⟨[], _, f104 n.natAbs d.natAbs (by omega) (by omega), ?_⟩
          conv => whnf
          (refine ⟨by kernel_rfl, by kernel_rfl, ?_⟩; (conv => whnf))
          refine ⟨leA_bool ?_, leH_nil⟩
          have : rIn ⟨n, d⟩ := ⟨h1, h2, h3, h4⟩
          simp only [rOk, this, decide_true, Bool.true_and]
          rw [Bool.eq_iff_iff]; simp; omega
        · conv => whnf
          (refine ⟨by kernel_rfl, by kernel_rfl, ?_⟩; (conv => whnf))
          exact ⟨leA_bool (rOk_no fun h => by simp [rIn] at h h4; omega), leH_nil⟩
      · conv => whnf
        (refine ⟨by kernel_rfl, by kernel_rfl, ?_⟩; (conv => whnf))
        exact ⟨leA_bool (rOk_no fun h => by simp [rIn] at h h3; omega), leH_nil⟩
    · conv => whnf
      (refine ⟨by kernel_rfl, by kernel_rfl, ?_⟩; (conv => whnf))
      exact ⟨leA_bool (rOk_no fun h => by simp [rIn] at h h2; omega), leH_nil⟩
  · conv => whnf
    (refine ⟨by kernel_rfl, by kernel_rfl, ?_⟩; (conv => whnf))
    exact ⟨leA_bool (rOk_no fun h => by simp [rIn] at h h1; omega), leH_nil⟩

/-- In lowest terms. -/
def low (neg : Bool) (a b : Nat) : Option Rt :=
  if a / Nat.gcd a b ≤ 1073741824 ∧ b / Nat.gcd a b ≤ 1073741824 then some ⟨if neg then -((a / Nat.gcd a b : Nat) : Int) else ((a / Nat.gcd a b : Nat) : Int), ((b / Nat.gcd a b : Nat) : Int)⟩ else none
def rMake (n d : Int) : Rt × Int := if d = 0 then (⟨0, 0⟩, 10) else match low (decide (n < 0) != decide (d < 0)) n.natAbs d.natAbs with
  | none => (⟨0, 0⟩, 9)
  | some r => (r, 0)
abbrev rtv (r : Rt) : AV := .agg [.int .i64 r.n, .int .i64 r.d]
end Go.Proofs.YtmcdnbmamoggoaaGreat

/-
  Numbers: sums, differences, products, quotients.
-/
namespace Go.Proofs.YtmcdnbmamoggoaaGreat
open Go Go.Sx
set_option maxRecDepth 100000
set_option maxHeartbeats 1000000
theorem rOk_in {r : Rt} (h : rOk r = true) : rIn r := by simp [rOk] at h; exact h.1
def rOp (a b : Rt) (n d : Int) : Rt × Int := if (rOk a && rOk b) = true then rMake n d else (⟨0, 0⟩, 1)
def rAdd (a b : Rt) : Rt × Int := rOp a b (a.n * b.d + b.n * a.d) (a.d * b.d)
def rSub (a b : Rt) : Rt × Int := rOp a b (a.n * b.d - b.n * a.d) (a.d * b.d)
def rMul (a b : Rt) : Rt × Int := rOp a b (a.n * b.n) (a.d * b.d)
def rDiv (a b : Rt) : Rt × Int := rOp a b (a.n * b.d) (a.d * b.n)
abbrev rto (p : Rt × Int) : AV := .tup [rtv p.1, .int .i64 p.2]
abbrev rbl (a : Rt) : Blk := .cells [.int .i64 a.n, .int .i64 a.d]
/-- A product of numbers of ratios. -/
theorem rOp_no {a b : Rt} {n d : Int} (h : rOk a = false) : rOp a b n d = (⟨0, 0⟩, 1) := by simp [rOp, h]
theorem rOp_no2 {a b : Rt} {n d : Int} (h : rOk b = false) : rOp a b n d = (⟨0, 0⟩, 1) := by simp [rOp, h]
theorem rOp_yes {a b : Rt} {n d : Int} (h : rOk a = true) (h2 : rOk b = true) : rOp a b n d = rMake n d := by simp [rOp, h, h2]
theorem leH2 {h h' : Hp} (a b : Rt) : leH h h' [(1000002, rbl a), (1000003, rbl b)] [(1000002, rbl a), (1000003, rbl b)] := leH_cons (leB_cells (leL_cons (leA_refl rfl) (leL_cons (leA_refl rfl) leL_nil))) (leH_cons (leB_cells (leL_cons (leA_refl rfl) (leL_cons (leA_refl rfl) leL_nil))) leH_nil)
theorem mulB {x y : Int} (h1 : -1073741824 ≤ x ∧ x ≤ 1073741824) (h2 : -1073741824 ≤ y ∧ y ≤ 1073741824) : -1152921504606846976 ≤ x * y ∧ x * y ≤ 1152921504606846976 := by
  have e : (x * y).natAbs = x.natAbs * y.natAbs := Int.natAbs_mul x y
  have : x.natAbs * y.natAbs ≤ 1073741824 * 1073741824 := Nat.mul_le_mul (by omega) (by omega)
  omega
theorem mulW {x y : Int} (h1 : -1073741824 ≤ x ∧ x ≤ 1073741824) (h2 : -1073741824 ≤ y ∧ y ≤ 1073741824) : IntKind.i64.wrap (x * y) = x * y := wI (by have := mulB h1 h2; omega)

end Go.Proofs.YtmcdnbmamoggoaaGreat

/-
  Numbers of the reference.
-/
namespace Go.Proofs.YtmcdnbmamoggoaaGreat
open Go Go.Sx
set_option maxRecDepth 100000
set_option maxHeartbeats 1000000
theorem f155' (a : Nat) (d : Int) (ha : a < 18446744073709551616) (hb : 0 ≤ d ∧ d < 18446744073709551616) : Fn 104 [] [.int .u64 a, .int .u64 (IntKind.u64.wrap d)] (.int .u64 (Nat.gcd a d.natAbs : Int)) [] := by
  have h := f155 a d.natAbs ha (by omega)
  rwa [show ((d.natAbs : Nat) : Int) = IntKind.u64.wrap d by rw [wU (by omega)]; omega] at h
theorem f131 (n d : Int) : Fn 80 [] [.agg [.int .i64 n, .int .i64 d]] (.bool (rOk ⟨n, d⟩)) [] := by
  refine fnT hT hmx Tryz.func80 rfl rfl (ex := []) ?_
  conv => whnf
  refine brI (fun h1 => ?_) (fun h1 => ?_)
  · conv => whnf
    refine brI (fun h2 => ?_) (fun h2 => ?_)
    · conv => whnf
      refine brI (fun h3 => ?_) (fun h3 => ?_)
      · conv => whnf
        refine brI (fun h4 => ?_) (fun h4 => ?_)
        · conv => whnf
          simp only [decide_eq_true_eq] at h1 h2 h3 h4
          refine ⟨[], _, f156 n (by omega), ?_⟩
          conv => whnf
          refine ⟨[], _, f155' n.natAbs d (by omega) (by omega), ?_⟩
          conv => whnf
          (refine ⟨by kernel_rfl, by kernel_rfl, ?_⟩; (conv => whnf))
          refine ⟨leA_bool ?_, leH_nil⟩
          have : rIn ⟨n, d⟩ := ⟨h1, h2, h3, h4⟩
          simp only [rOk, this, decide_true, Bool.true_and]
          rw [Bool.eq_iff_iff]; simp; omega
        · conv => whnf
          (refine ⟨by kernel_rfl, by kernel_rfl, ?_⟩; (conv => whnf))
          exact ⟨leA_bool (rOk_no fun h => by simp [rIn] at h h4; omega), leH_nil⟩
      · conv => whnf
        (refine ⟨by kernel_rfl, by kernel_rfl, ?_⟩; (conv => whnf))
        exact ⟨leA_bool (rOk_no fun h => by simp [rIn] at h h3; omega), leH_nil⟩
    · conv => whnf
      (refine ⟨by kernel_rfl, by kernel_rfl, ?_⟩; (conv => whnf))
      exact ⟨leA_bool (rOk_no fun h => by simp [rIn] at h h2; omega), leH_nil⟩
  · conv => whnf
    (refine ⟨by kernel_rfl, by kernel_rfl, ?_⟩; (conv => whnf))
    exact ⟨leA_bool (rOk_no fun h => by simp [rIn] at h h1; omega), leH_nil⟩


/-- What the reference's checked returns. -/
def chk (neg : Bool) (a b : Nat) : Rt × Int := match low neg a b with
  | none => (⟨0, 0⟩, 9)
  | some r => (r, 0)
def lowV (neg : Bool) (a b : Nat) : AV := match low neg a b with
  | none => .tup [rtv ⟨0, 0⟩, .bool false]
  | some r => .tup [rtv r, .bool true]
end Go.Proofs.YtmcdnbmamoggoaaGreat

/-
  The reference's sums, differences, products, quotients.
-/
namespace Go.Proofs.YtmcdnbmamoggoaaGreat
open Go Go.Sx
set_option maxRecDepth 100000
set_option maxHeartbeats 1000000
theorem rMake_chk {n d : Int} (h : d ≠ 0) : rMake n d = chk (decide (n < 0) != decide (d < 0)) n.natAbs d.natAbs := by
  rw [rMake, if_neg h]; rfl
theorem rMake_pos {n d : Int} (h : 0 < d) : rMake n d = chk (decide (n < 0)) n.natAbs d.natAbs := by
  rw [rMake_chk (by omega), show decide (d < 0) = false by simp; omega]; simp
theorem mulP {x y : Int} (h1 : 1 ≤ x ∧ x ≤ 1073741824) (h2 : 1 ≤ y ∧ y ≤ 1073741824) : 1 ≤ x * y ∧ x * y ≤ 1152921504606846976 := by
  have h3 := mulB (x := x) (y := y) (by omega) (by omega)
  have := Int.mul_pos (a := x) (b := y) (by omega) (by omega)
  omega
/-- The product of two denominators, as a machine's number without sign. -/
theorem denW {x y : Int} (h1 : 1 ≤ x ∧ x ≤ 1073741824) (h2 : 1 ≤ y ∧ y ≤ 1073741824) : IntKind.u64.wrap (IntKind.u64.wrap x * IntKind.u64.wrap y) = (((x * y).natAbs : Nat) : Int) := by
  have h := mulP h1 h2
  rw [wU (x := x) (by omega), wU (x := y) (by omega), wU (by omega)]; omega
theorem rOk_neg (n d : Int) : rOk ⟨-n, d⟩ = rOk ⟨n, d⟩ := by
  have e : rIn ⟨-n, d⟩ ↔ rIn ⟨n, d⟩ := by
    constructor <;> (intro ⟨h1, h2, h3, h4⟩; simp only at h1 h2 h3 h4; exact ⟨h1, h2, by simp only; omega, by simp only; omega⟩)
  simp only [rOk, Int.natAbs_neg, e]
theorem rSub_add (a b : Rt) : rAdd a ⟨-b.n, b.d⟩ = rSub a b := by
  have e : rOk ⟨-b.n, b.d⟩ = rOk b := rOk_neg b.n b.d
  simp only [rAdd, rSub, rOp, e, Int.neg_mul, ← Int.sub_eq_add_neg]
end Go.Proofs.YtmcdnbmamoggoaaGreat
