/-
  Seat of EvaluateExact: the table of math/bits as a ghost block; the lowest bit of a limb.
-/
import Derived.Test.YtnijmbnkcmhfpaaGreatDoorQUb
import Derived.Test.YtnijmbnkcmhfpaaGreatDoorQCk
import Derived.Shelf.Spec.TrailingZeros
import Derived.Lib.BitFns
import Derived.Test.YtnijmbnkcmhfpaaGreatDoorQIX
import Derived.Test.YtnijmbnkcmhfpaaGreatDoorQZz
import Derived.Laws.Bits64b
set_option linter.unusedVariables false
set_option linter.unusedSimpArgs false
namespace Go.Proofs.YtnijmbnkcmhfpaaGreatDoor
open Go Go.Sx
set_option maxRecDepth 100000
set_option maxHeartbeats 8000000
/-- The table lies in its variable, out of reach. -/
def JT : GJ := fun _ V _ => ∀ j, j < Lib.deBruijn32tab.length → VCell V 0 j (.int .u8 (Lib.deBruijn32tab.getD j 0))
theorem JT_stab : Stab JT := fun _ _ _ _ _ h _ hj j hl => (hj j hl).cmono h
abbrev G0 : Hp := [(CBID, .gst JT)]
theorem leG {h h' : Hp} : leH h h' G0 G0 := leH_cons (leB_gst rfl) leH_nil
def T4 : Tab := { T with nb := (23, 1) :: T.nb, gl := [4, 8, 26, 52, 82, 83, 84, 131, 132, 133, 128, 129, 179, 180, 223, 168, 219, 265, 122, 171, 220] }
theorem hT4 : TabOK Tryz.prog T4 := tab_ok (by kernel_rfl) (by kernel_rfl)
theorem c220 (x k idx : Nat) (w : World) (hx0 : ((x : Int) == 0) = false)
    (key : bits BinOp.and IntKind.u32 (x : Int) (-(x : Int) % 4294967296) * 125613361 % 4294967296 / 134217728 = (idx : Int))
    (hi : idx < 32) (hk : k < 32) (hcell : w.cell? ⟨0, idx, none⟩ = some (.int .u8 k)) :
    Calls Tryz.prog 220 #[.int .u32 x] w fun e w' => e = .returned (.int .i64 k) ∧ w' = w := by
  go_enter Tryz.func220, Tryz.ntmps220
  go_wp2_with (simp only [key])
  go_ret
  exact ⟨rfl, rfl⟩
theorem c220x (x : Nat) (hx : x < 4294967296) (hx0 : x ≠ 0) (w : World) (hT : TabAt 0 Lib.deBruijn32tab w) : Calls Tryz.prog 220 #[.int .u32 x] w fun e w' => e = .returned (.int .i64 (Lib.ctz 32 x : Nat)) ∧ w' = w := by
  obtain ⟨hlow, hk⟩ := Lib.lowest_bit 32 x hx0 hx
  obtain ⟨hi, htab⟩ := Lib.deBruijn32_at _ hk
  have hcell := hT _ hi
  rw [htab] at hcell
  exact c220 x _ _ w (by simp; omega) (tz32_key x _ hx hx0 hlow) hi hk hcell
theorem JT_tab {w : World} {M : Nat → Prop} {S : Nat → Prop} (h : JT S (view w M) w) : TabAt 0 Lib.deBruijn32tab w := fun j hj => by
  obtain ⟨cs, Ty, fr, ⟨_, h1⟩, h2⟩ := h j hj
  simp only [World.cell?, h1]; exact h2
theorem y220 (x : Nat) (hx : x < 4294967296) (hx0 : x ≠ 0) : Fn 220 G0 [.int .u32 x] (.int .i64 (Lib.ctz 32 x : Nat)) G0 := by
  refine ⟨⟨_, Tryz.func220, rfl, rfl⟩, fun w M pt ow S vs hcore hcont hargs => ?_⟩
  match vs, hargs with
  | [v], ⟨hv, _⟩ =>
    obtain rfl : v = .int .u32 x := hv
    have hb : BlkOk w (view w M) pt ow S CBID (.gst JT) := hcore.blk CBID
    refine (c220x x hx hx0 w (JT_tab hb.2.2)).mono ?_
    rintro e w' ⟨rfl, rfl⟩
    exact ⟨_, M, pt, ow, S, rfl, hcore, hcont, rfl, rfl, rfl, rfl, Nat.le_refl _, fun _ _ _ _ => rfl, fun _ h => h, fun _ h => .inl h, fun _ h => .inl h, fun _ _ h => .inl h, fun _ _ h => .inl h⟩
def len8 : Bytes := [0, 1, 2, 2, 3, 3, 3, 3, 4, 4, 4, 4, 4, 4, 4, 4, 5, 5, 5, 5, 5, 5, 5, 5, 5, 5, 5, 5, 5, 5, 5, 5] ++ List.replicate 32 6 ++ List.replicate 64 7 ++ List.replicate 128 8
theorem len8_at : ∀ n : Fin 256, (len8[n.val]?).map (·.toNat) = some (Lib.bitLen n.val) := by decide +kernel
theorem y113 (x : Nat) (hx : x < 4294967296) : Fn 113 [] [.int .u32 x] (.int .i64 (Lib.bitLen x : Nat)) [] := by
  have hle : ∀ (y : Int) (m : Nat), y.toNat = m → m < 256 → ∀ c, len8[y.toNat]? = some c → c.toNat = Lib.bitLen m ∧ c.toNat ≤ 8 := fun y m hy hm c hc => by
    have := len8_at ⟨m, hm⟩
    simp only at this
    rw [hy] at hc
    rw [hc] at this
    have h1 : c.toNat = Lib.bitLen m := Option.some.inj this
    exact ⟨h1, by rw [h1]; exact Lib.bitLen_le8 ⟨m, hm⟩⟩
  refine fnT hT hmx Tryz.func113 rfl rfl (ex := []) ?_
  conv => whnf
  have sh : ∀ n k : Nat, (n : Int).fdiv (2 ^ k) = ((n / 2 ^ k : Nat) : Int) := fun n k => by
    rw [Int.fdiv_eq_ediv_of_nonneg _ (by exact Int.pow_nonneg (by decide))]; rfl
  have e8 : ∀ n : Nat, n < 256 → IntKind.u8.wrap (n : Int) = n := fun n h => by show IntKind.u8.wrap (n : Int) = n; simp [IntKind.wrap, IntKind.signed, IntKind.bits]; omega
  refine brI (fun h1 => ?_) (fun h1 => ?_)
  · have h1 : 65536 ≤ x := by simp only [decide_eq_true_eq] at h1; omega
    have e1 := Lib.bitLen_shift16 x h1 (by omega)
    conv => whnf
    refine ⟨by omega, ?_⟩
    conv => whnf
    rw [show (x : Int).fdiv (2 ^ min (16 : Int).toNat IntKind.u32.bits) = ((x / 65536 : Nat) : Int) from sh x 16]
    refine brI (fun h2 => ?_) (fun h2 => ?_)
    · have h2 : 256 ≤ x / 65536 := by simp only [decide_eq_true_eq] at h2; omega
      have e2 := Lib.bitLen_shift8 (x / 65536) h2 (by omega)
      conv => whnf
      refine ⟨by omega, ?_⟩
      conv => whnf
      rw [show ((x / 65536 : Nat) : Int).fdiv (2 ^ min (8 : Int).toNat IntKind.u32.bits) = ((x / 65536 / 256 : Nat) : Int) from sh _ 8, e8 _ (by omega)]
      refine ⟨⟨by omega, by simp; omega⟩, fun c hc => ?_⟩
      conv => whnf
      obtain ⟨hc, hc8⟩ := hle _ (x / 65536 / 256) (by omega) (by omega) c hc
      refine ⟨leA_int ?_, leH_nil⟩
      show IntKind.i64.wrap (IntKind.i64.wrap (16 + 8) + IntKind.i64.wrap (c.toNat : Int)) = _
      rw [wI (x := (c.toNat : Int)) (by omega), wI (x := 16 + 8) (by omega), wI (by omega)]; omega
    · have h2 : x / 65536 < 256 := by simp only [decide_eq_false_iff_not] at h2; omega
      conv => whnf
      rw [e8 _ h2]
      refine ⟨⟨by omega, by simp; omega⟩, fun c hc => ?_⟩
      conv => whnf
      obtain ⟨hc, hc8⟩ := hle _ _ (by omega) h2 c hc
      refine ⟨leA_int ?_, leH_nil⟩
      show IntKind.i64.wrap (16 + IntKind.i64.wrap (c.toNat : Int)) = _
      rw [wI (x := (c.toNat : Int)) (by omega), wI (by omega)]; omega
  · have h1 : x < 65536 := by simp only [decide_eq_false_iff_not] at h1; omega
    conv => whnf
    refine brI (fun h2 => ?_) (fun h2 => ?_)
    · have h2 : 256 ≤ x := by simp only [decide_eq_true_eq] at h2; omega
      have e2 := Lib.bitLen_shift8 x h2 (by omega)
      conv => whnf
      refine ⟨by omega, ?_⟩
      conv => whnf
      rw [show (x : Int).fdiv (2 ^ min (8 : Int).toNat IntKind.u32.bits) = ((x / 256 : Nat) : Int) from sh _ 8, e8 _ (by omega)]
      refine ⟨⟨by omega, by simp; omega⟩, fun c hc => ?_⟩
      conv => whnf
      obtain ⟨hc, hc8⟩ := hle _ (x / 256) (by omega) (by omega) c hc
      refine ⟨leA_int ?_, leH_nil⟩
      show IntKind.i64.wrap (IntKind.i64.wrap (0 + 8) + IntKind.i64.wrap (c.toNat : Int)) = _
      rw [wI (x := (c.toNat : Int)) (by omega), wI (x := 0 + 8) (by omega), wI (by omega)]; omega
    · have h2 : x < 256 := by simp only [decide_eq_false_iff_not] at h2; omega
      conv => whnf
      rw [e8 _ h2]
      refine ⟨⟨by omega, by simp; omega⟩, fun c hc => ?_⟩
      conv => whnf
      obtain ⟨hc, hc8⟩ := hle _ _ (by omega) h2 c hc
      refine ⟨leA_int ?_, leH_nil⟩
      show IntKind.i64.wrap (0 + IntKind.i64.wrap (c.toNat : Int)) = _
      rw [wI (x := (c.toNat : Int)) (by omega), wI (by omega)]; omega
end Go.Proofs.YtnijmbnkcmhfpaaGreatDoor

/-
  Natural numbers as limbs: trim, long, done, Bits, the lowest bit.
-/
namespace Go.Proofs.YtnijmbnkcmhfpaaGreatDoor
open Go Go.Sx
set_option maxRecDepth 100000
set_option maxHeartbeats 8000000
/-- How many limbs there are below the zeros at the top. -/
def trN (l : List Int) : Nat → Nat
  | 0 => 0
  | n + 1 => if l[n]?.getD 0 = 0 then trN l n else n + 1
def trL (l : List Int) : List Int := l.take (trN l l.length)
theorem trN_le (l : List Int) : ∀ n, trN l n ≤ n
  | 0 => Nat.le_refl _
  | n + 1 => by
    have := trN_le l n
    simp only [trN]; split <;> omega
theorem trL_len (l : List Int) : (trL l).length ≤ l.length := by
  have := trN_le l l.length
  unfold trL; rw [List.length_take]; omega
def LB (l : List Int) : Prop := ∀ x ∈ l, 0 ≤ x ∧ x < 4294967296
theorem LB.tr {l : List Int} (h : LB l) : LB (trL l) := fun x hx => h x (List.mem_of_mem_take hx)
theorem trN_last (l : List Int) : ∀ n, trN l n = 0 ∨ ∃ m x, trN l n = m + 1 ∧ l[m]? = some x ∧ x ≠ 0
  | 0 => .inl rfl
  | n + 1 => by
    simp only [trN]
    split
    · exact trN_last l n
    · rename_i h
      cases hx : l[n]? with
      | none => rw [hx] at h; exact absurd rfl h
      | some x => rw [hx] at h; exact .inr ⟨n, x, rfl, hx, h⟩
theorem y216 (l : List Int) (hl : l.length < 9223372036854775808) : Fn 216 [] [.sl .u32 l] (.sl .u32 (trL l)) [] := by
  refine fnT hT4 hmx Tryz.func216 rfl rfl (ex := []) ?_
  conv => whnf
  refine ⟨Nat, fun n => n ≤ l.length ∧ trN l n = trN l l.length, fun n => [(3, .int .i64 n)], fun _ => [], fun n => n, l.length, ⟨Nat.le_refl _, rfl⟩, ?_, fun n hn => ?_⟩
  · ((conv => whnf); refine And.intro ?_ ?_; repeat' first | refine leL_cons ?_ ?_ | exact leA_any | exact leA_refl rfl | exact leL_nil | refine leH_cons ?_ ?_ | exact leH_nil | exact leB_free | exact leB_dead | refine leB_cells ?_ | exact leB_map rfl | exact leB_gst rfl | exact leA_nil rfl | refine leA_agg ?_ | refine leA_tup ?_ | fail)
  (refine ⟨by kernel_rfl, ?_⟩; (conv => whnf))
  obtain ⟨hn1, hn2⟩ := hn
  refine brI (fun h1 => ?_) (fun h1 => ?_)
  · have h1 : 0 < n := by simp only [decide_eq_true_eq] at h1; omega
    obtain ⟨m, rfl⟩ : ∃ m, n = m + 1 := ⟨n - 1, by omega⟩
    have hw : IntKind.i64.wrap (((m + 1 : Nat) : Int) - 1) = (m : Int) := by rw [wI (by omega)]; omega
    conv => whnf
    rw [hw]
    refine ⟨⟨by omega, by omega⟩, fun x hx => ?_⟩
    have hx : l[m]? = some x := by simpa using hx
    simp only [trN, hx, Option.getD_some] at hn2
    conv => whnf
    refine brI (fun h2 => ?_) (fun h2 => ?_)
    · have h2 : x = 0 := by simpa using h2
      rw [if_pos h2] at hn2
      conv => whnf
      refine ⟨m, ⟨by omega, hn2⟩, by show m < m + 1; omega, ?_⟩
      ((conv => whnf); refine And.intro ?_ ?_; repeat' first | refine leL_cons ?_ ?_ | exact leA_any | exact leA_refl rfl | exact leL_nil | refine leH_cons ?_ ?_ | exact leH_nil | exact leB_free | exact leB_dead | refine leB_cells ?_ | exact leB_map rfl | exact leB_gst rfl | exact leA_nil rfl | refine leA_agg ?_ | refine leA_tup ?_ | fail)
      exact leA_int hw
    · have h2 : ¬ x = 0 := by simpa using h2
      rw [if_neg h2] at hn2
      conv => whnf
      refine ⟨⟨by omega, by omega, by omega⟩, ?_⟩
      conv => whnf
      exact ⟨leA_sl (by rw [trL, ← hn2]; simp), leH_nil⟩
  · have h1 : n = 0 := by simp only [decide_eq_false_iff_not] at h1; omega
    subst h1
    simp only [trN] at hn2
    conv => whnf
    refine ⟨⟨by omega, by omega, by omega⟩, ?_⟩
    conv => whnf
    exact ⟨leA_sl (by rw [trL, ← hn2]; simp), leH_nil⟩
theorem y170 (l : List Int) (hl : l.length < 9223372036854775808) : Fn 170 [] [.sl .u32 l] (.sl .u32 (trL l)) [] := by
  refine fnT hT4 hmx Tryz.func170 rfl rfl (ex := []) ?_
  conv => whnf
  refine ⟨Nat, fun n => n ≤ l.length ∧ trN l n = trN l l.length, fun n => [(3, .int .i64 n)], fun _ => [], fun n => n, l.length, ⟨Nat.le_refl _, rfl⟩, ?_, fun n hn => ?_⟩
  · ((conv => whnf); refine And.intro ?_ ?_; repeat' first | refine leL_cons ?_ ?_ | exact leA_any | exact leA_refl rfl | exact leL_nil | refine leH_cons ?_ ?_ | exact leH_nil | exact leB_free | exact leB_dead | refine leB_cells ?_ | exact leB_map rfl | exact leB_gst rfl | exact leA_nil rfl | refine leA_agg ?_ | refine leA_tup ?_ | fail)
  (refine ⟨by kernel_rfl, ?_⟩; (conv => whnf))
  obtain ⟨hn1, hn2⟩ := hn
  refine brI (fun h1 => ?_) (fun h1 => ?_)
  · have h1 : 0 < n := by simp only [decide_eq_true_eq] at h1; omega
    obtain ⟨m, rfl⟩ : ∃ m, n = m + 1 := ⟨n - 1, by omega⟩
    have hw : IntKind.i64.wrap (((m + 1 : Nat) : Int) - 1) = (m : Int) := by rw [wI (by omega)]; omega
    conv => whnf
    rw [hw]
    refine ⟨⟨by omega, by omega⟩, fun x hx => ?_⟩
    have hx : l[m]? = some x := by simpa using hx
    simp only [trN, hx, Option.getD_some] at hn2
    conv => whnf
    refine brI (fun h2 => ?_) (fun h2 => ?_)
    · have h2 : x = 0 := by simpa using h2
      rw [if_pos h2] at hn2
      conv => whnf
      refine ⟨m, ⟨by omega, hn2⟩, by show m < m + 1; omega, ?_⟩
      ((conv => whnf); refine And.intro ?_ ?_; repeat' first | refine leL_cons ?_ ?_ | exact leA_any | exact leA_refl rfl | exact leL_nil | refine leH_cons ?_ ?_ | exact leH_nil | exact leB_free | exact leB_dead | refine leB_cells ?_ | exact leB_map rfl | exact leB_gst rfl | exact leA_nil rfl | refine leA_agg ?_ | refine leA_tup ?_ | fail)
      exact leA_int hw
    · have h2 : ¬ x = 0 := by simpa using h2
      rw [if_neg h2] at hn2
      conv => whnf
      refine ⟨⟨by omega, by omega, by omega⟩, ?_⟩
      conv => whnf
      exact ⟨leA_sl (by rw [trL, ← hn2]; simp), leH_nil⟩
  · have h1 : n = 0 := by simp only [decide_eq_false_iff_not] at h1; omega
    subst h1
    simp only [trN] at hn2
    conv => whnf
    refine ⟨⟨by omega, by omega, by omega⟩, ?_⟩
    conv => whnf
    exact ⟨leA_sl (by rw [trL, ← hn2]; simp), leH_nil⟩
def lgB (a : List Int) : Bool := decide (256 < a.length)
theorem y255 (a : List Int) : Fn 255 [] [.sl .u32 a] (.bool (lgB a)) [] := by
  refine fnT hT4 hmx Tryz.func255 rfl rfl (ex := []) ?_
  conv => whnf
  refine ⟨leA_bool ?_, leH_nil⟩
  unfold lgB
  rw [Bool.eq_iff_iff]; simp only [decide_eq_true_eq]; omega
theorem y277 (l : List (List Int)) (hlen : l.length < 9223372036854775808) : Fn 277 [] [.sl .ls l, .fn 255 []] (.int .i64 (ixP lgB l 0)) [] := by
  refine fnT hT4 hmx Tryz.func277 rfl rfl (ex := []) ?_
  conv => whnf
  refine ⟨Nat, fun i => i ≤ l.length ∧ ixP lgB (l.drop i) i = ixP lgB l 0, fun i => [(8, .int .i64 i)], fun _ => [], fun i => l.length - i, 0, ⟨by simp, rfl⟩, ?_, fun i hi => ?_⟩
  · ((conv => whnf); refine And.intro ?_ ?_; repeat' first | refine leL_cons ?_ ?_ | exact leA_any | exact leA_refl rfl | exact leL_nil | refine leH_cons ?_ ?_ | exact leH_nil | exact leB_free | exact leB_dead | refine leB_cells ?_ | exact leB_map rfl | exact leB_gst rfl | exact leA_nil rfl | refine leA_agg ?_ | refine leA_tup ?_ | fail)
  (refine ⟨by kernel_rfl, ?_⟩; (conv => whnf))
  obtain ⟨hi1, hi2⟩ := hi
  refine brI (fun h1 => ?_) (fun h1 => ?_)
  · conv => whnf
    have hi : i < l.length := by simp only [decide_eq_true_eq] at h1; omega
    refine ⟨⟨by omega, by omega⟩, fun x hx => ?_⟩
    have hx : l[i]? = some x := by simpa using hx
    rw [drop_get hx] at hi2
    simp only [ixP] at hi2
    conv => whnf
    refine cbI [] (lgB x) (y255 x) (fun h2 => ?_) (fun h2 => ?_)
    · conv => whnf
      rw [if_pos h2] at hi2
      exact ⟨leA_int hi2, leH_nil⟩
    · conv => whnf
      rw [if_neg (by rw [h2]; simp)] at hi2
      refine ⟨i + 1, ⟨by omega, hi2⟩, by show l.length - (i + 1) < l.length - i; omega, ?_⟩
      ((conv => whnf); refine And.intro ?_ ?_; repeat' first | refine leL_cons ?_ ?_ | exact leA_any | exact leA_refl rfl | exact leL_nil | refine leH_cons ?_ ?_ | exact leH_nil | exact leB_free | exact leB_dead | refine leB_cells ?_ | exact leB_map rfl | exact leB_gst rfl | exact leA_nil rfl | refine leA_agg ?_ | refine leA_tup ?_ | fail)
      exact leA_int (by rw [wI (by omega)]; omega)
  · conv => whnf
    have hi : ¬ i < l.length := by simp only [decide_eq_false_iff_not] at h1; omega
    rw [List.drop_of_length_le (by omega)] at hi2
    exact ⟨leA_int hi2, leH_nil⟩
theorem y254 (l : List (List Int)) (hlen : l.length < 9223372036854775808) : Fn 254 [] [.sl .ls l, .fn 255 []] (.bool (l.any lgB)) [] := by
  refine fnT hT4 hmx Tryz.func254 rfl rfl (ex := []) ?_
  conv => whnf
  refine ⟨[], _, y277 l hlen, ?_⟩
  conv => whnf
  exact ⟨leA_bool (by rw [Bool.eq_iff_iff, decide_eq_true_eq]; exact ixP_iff lgB l 0), leH_nil⟩
theorem y215 (l : List (List Int)) (hlen : l.length < 9223372036854775808) : Fn 215 [] [.sl .ls l] (.bool (l.any lgB)) [] := by
  refine fnT hT4 hmx Tryz.func215 rfl rfl (ex := []) ?_
  conv => whnf
  refine ⟨[], _, y254 l hlen, ?_⟩
  conv => whnf
  exact ⟨leA_refl rfl, leH_nil⟩
theorem y173 (l : List Int) (hl : l.length < 9223372036854775808) : Fn 173 [] [.sl .u32 l] (.sl .u32 l) [] := by
  refine fnT hT4 hmx Tryz.func173 rfl rfl (ex := []) ?_
  conv => whnf
  refine ⟨⟨by omega, by omega, by omega⟩, ?_⟩
  conv => whnf
  exact ⟨leA_sl (by simp), leH_nil⟩
theorem y174 (l : List Int) (hl : l.length ≤ 1000000) : Fn 174 [] [.sl .u32 l] (.sl .u32 l) [] := by
  refine fnT hT4 hmx Tryz.func174 rfl rfl (ex := []) ?_
  conv => whnf
  refine ⟨fun h => ?_, fun _ => ?_⟩
  · conv => whnf
    subst h
    exact ⟨leA_nil rfl, leH_nil⟩
  · conv => whnf
    refine ⟨by simp; omega, ?_⟩
    conv => whnf
    exact ⟨leA_sl (by simp), leH_nil⟩
/-- A result, or ErrBig. -/
def dnL (l : List Int) : List Int × Int := if 256 < (trL l).length then ([], 9) else (trL l, 0)
abbrev dnV (p : List Int × Int) : AV := .tup [.sl .u32 p.1, .int .i64 p.2]
theorem y221 (l : List Int) (hl : l.length ≤ 1000000) : Fn 221 [] [.sl .u32 l] (dnV (dnL l)) [] := by
  obtain ⟨A, hA⟩ : ∃ A, dnL l = A := ⟨_, rfl⟩
  rw [hA]
  unfold dnL at hA
  have htl := trL_len l
  have h215 := y215 [trL l] (by simp)
  have hlg : [trL l].any lgB = decide (256 < (trL l).length) := by simp [lgB]
  rw [hlg] at h215
  refine fnT hT4 hmx Tryz.func221 rfl rfl (ex := []) ?_
  conv => whnf
  refine ⟨[], _, y216 l (by omega), ?_⟩
  conv => whnf
  refine cbI [] _ h215 (fun h1 => ?_) (fun h1 => ?_)
  · rw [if_pos (of_decide_eq_true h1)] at hA
    subst hA
    conv => whnf
    exact ⟨leA_tup (leL_cons (leA_nil rfl) (leL_cons (leA_refl rfl) leL_nil)), leH_nil⟩
  · rw [if_neg (of_decide_eq_false h1)] at hA
    subst hA
    conv => whnf
    refine ⟨[], _, y173 (trL l) (by omega), ?_⟩
    conv => whnf
    exact ⟨leA_refl rfl, leH_nil⟩
/-- The number of the bits. -/
def btL (l : List Int) : Int := match (trL l).getLast? with
  | none => 0
  | some x => 32 * ((trL l).length - 1) + (Lib.bitLen x.toNat : Nat)
theorem bitLen_le {x : Nat} (h : x < 4294967296) : Lib.bitLen x ≤ 32 := by
  by_cases h1 : 65536 ≤ x
  · have e1 := Lib.bitLen_shift16 x h1 (by omega)
    by_cases h2 : 256 ≤ x / 65536
    · have e2 := Lib.bitLen_shift8 (x / 65536) h2 (by omega)
      have := Lib.bitLen_le8 ⟨x / 65536 / 256, by omega⟩
      simp only at this; omega
    · have := Lib.bitLen_le8 ⟨x / 65536, by omega⟩
      simp only at this; omega
  · by_cases h2 : 256 ≤ x
    · have e2 := Lib.bitLen_shift8 x h2 (by omega)
      have := Lib.bitLen_le8 ⟨x / 256, by omega⟩
      simp only at this; omega
    · have := Lib.bitLen_le8 ⟨x, by omega⟩
      simp only at this; omega
theorem y169 (l : List Int) (hb : LB l) (hl : l.length ≤ 1000000) : Fn 169 [] [.sl .u32 l] (.int .i64 (btL l)) [] := by
  have htl := trL_len l
  have h216 := y216 l (by omega)
  have hb2 := hb.tr
  unfold btL
  generalize trL l = t at htl h216 hb2
  refine fnT hT4 hmx Tryz.func169 rfl rfl (ex := []) ?_
  conv => whnf
  refine ⟨[], _, h216, ?_⟩
  conv => whnf
  refine brI (fun h1 => ?_) (fun h1 => ?_)
  · have h1 : t = [] := by
      have h1 : ((t.length : Int) == 0) = true := h1
      rw [beq_iff_eq] at h1
      exact List.eq_nil_of_length_eq_zero (by omega)
    subst h1
    conv => whnf
    exact ⟨leA_refl rfl, leH_nil⟩
  · have h1 : 0 < t.length := by
      have h1 : ((t.length : Int) == 0) = false := h1
      rw [beq_eq_false_iff_ne] at h1
      omega
    have hw : IntKind.i64.wrap ((t.length : Int) - 1) = ((t.length - 1 : Nat) : Int) := by rw [wI (by omega)]; omega
    conv => whnf
    rw [hw]
    refine ⟨⟨by omega, by omega⟩, fun x hx => ?_⟩
    have hx : t[t.length - 1]? = some x := by simpa using hx
    have hg : t.getLast? = some x := by rw [List.getLast?_eq_getElem?]; exact hx
    have hxb := hb2 x (List.mem_of_getElem? hx)
    have h113 := y113 x.toNat (by omega)
    have hbl := bitLen_le (x := x.toNat) (by omega)
    rw [show ((x.toNat : Nat) : Int) = x by omega] at h113
    rw [hg]
    conv => whnf
    refine ⟨[], _, h113, ?_⟩
    conv => whnf
    refine ⟨leA_int ?_, leH_nil⟩
    show _ = 32 * ((t.length : Int) - 1) + ((Lib.bitLen x.toNat : Nat) : Int)
    rw [wI (x := 32 * ((t.length - 1 : Nat) : Int)) (by omega), wI (by omega)]; omega
theorem y175 (l : List Int) (hb : LB l) (hl : l.length ≤ 1000000) : Fn 175 [] [.sl .u32 l] (.int .i64 (btL l)) [] := by
  refine fnT hT4 hmx Tryz.func175 rfl rfl (ex := []) ?_
  conv => whnf
  refine ⟨[], _, y169 l hb hl, ?_⟩
  conv => whnf
  exact ⟨leA_refl rfl, leH_nil⟩
/-- The number of the zero bits at the bottom. -/
def lwL : List Int → Int → Int
  | [], n => n
  | x :: l, n => if x = 0 then lwL l (n + 32) else n + (Lib.ctz 32 x.toNat : Nat)
theorem y171 (l : List Int) (hb : LB l) (hl : l.length ≤ 1000000) : Fn 171 G0 [.sl .u32 l] (.int .i64 (lwL l 0)) G0 := by
  refine fnT hT4 hmx Tryz.func171 rfl rfl (ex := []) ?_
  conv => whnf
  refine ⟨Nat, fun i => i ≤ l.length ∧ lwL (l.drop i) (32 * (i : Int)) = lwL l 0, fun i => [(8, .int .i64 i), (3, .int .i64 (32 * (i : Int)))], fun _ => [], fun i => l.length - i, 0, ⟨by simp, rfl⟩, ?_, fun i hi => ?_⟩
  · ((conv => whnf); refine And.intro ?_ ?_; repeat' first | refine leL_cons ?_ ?_ | exact leA_any | exact leA_refl rfl | exact leL_nil | refine leH_cons ?_ ?_ | exact leH_nil | exact leB_free | exact leB_dead | refine leB_cells ?_ | exact leB_map rfl | exact leB_gst rfl | exact leA_nil rfl | refine leA_agg ?_ | refine leA_tup ?_ | fail)
  (refine ⟨by kernel_rfl, ?_⟩; (conv => whnf))
  obtain ⟨hi1, hi2⟩ := hi
  refine brI (fun h1 => ?_) (fun h1 => ?_)
  · conv => whnf
    have hi : i < l.length := by simp only [decide_eq_true_eq] at h1; omega
    refine ⟨⟨by omega, by omega⟩, fun (x : Int) hx => ?_⟩
    have hx : l[i]? = some x := by simpa using hx
    have hxb := hb x (List.mem_of_getElem? hx)
    rw [drop_get hx] at hi2
    simp only [lwL] at hi2
    conv => whnf
    refine brI (fun h2 => ?_) (fun h2 => ?_)
    · have h2 : x ≠ 0 := by simpa using h2
      rw [if_neg h2] at hi2
      have h220 := y220 x.toNat (by omega) (by omega)
      rw [show ((x.toNat : Nat) : Int) = x by omega] at h220
      have hk : Lib.ctz 32 x.toNat < 32 := (Lib.lowest_bit 32 x.toNat (by omega) (by omega)).2
      conv => whnf
      refine ⟨[.gst JT], _, h220, ?_⟩
      conv => whnf
      have e : IntKind.i64.wrap (32 * (i : Int) + ((Lib.ctz 32 x.toNat : Nat) : Int)) = lwL l 0 := by rw [wI (by omega)]; exact hi2
      exact ⟨leA_int e, leG⟩
    · have h2 : x = 0 := by simpa using h2
      rw [if_pos h2] at hi2
      conv => whnf
      refine ⟨i + 1, ⟨by omega, by rw [show 32 * ((i + 1 : Nat) : Int) = 32 * (i : Int) + 32 by omega]; exact hi2⟩, by show l.length - (i + 1) < l.length - i; omega, ?_⟩
      ((conv => whnf); refine And.intro ?_ ?_; repeat' first | refine leL_cons ?_ ?_ | exact leA_any | exact leA_refl rfl | exact leL_nil | refine leH_cons ?_ ?_ | exact leH_nil | exact leB_free | exact leB_dead | refine leB_cells ?_ | exact leB_map rfl | exact leB_gst rfl | exact leA_nil rfl | refine leA_agg ?_ | refine leA_tup ?_ | fail)
      all_goals exact leA_int (by rw [wI (by omega)]; omega)
  · conv => whnf
    have hi : ¬ i < l.length := by simp only [decide_eq_false_iff_not] at h1; omega
    rw [List.drop_of_length_le (by omega)] at hi2
    exact ⟨leA_int hi2, leG⟩
end Go.Proofs.YtnijmbnkcmhfpaaGreatDoor

/-
  Natural numbers as limbs: shl.
-/
namespace Go.Proofs.YtnijmbnkcmhfpaaGreatDoor
open Go Go.Sx
set_option maxRecDepth 100000
set_option maxHeartbeats 8000000
/-- The limbs, shifted by r bits, with what is carried. -/
def shlGo (r : Nat) : List Int → Int → List Int
  | [], c => [c]
  | x :: l, c => (x * 2 ^ r + c) % 4294967296 :: shlGo r l ((x * 2 ^ r + c) / 4294967296)
def shlL (a : List Int) (n : Nat) : List Int := List.replicate (n / 32) 0 ++ shlGo (n % 32) (trL a) 0
theorem shlGo_len (r : Nat) : ∀ (l : List Int) (c : Int), (shlGo r l c).length = l.length + 1
  | [], c => rfl
  | x :: l, c => by simp [shlGo, shlGo_len r l]
theorem or_add (x r c : Nat) (hr : r ≤ 32) (hx : x < 4294967296) (hc : c < 2 ^ r) : (BitVec.ofInt 64 ((x * 2 ^ r : Nat) : Int) ||| BitVec.ofInt 64 (c : Int)).toNat = x * 2 ^ r + c := by
  have h1 : 2 ^ r ≤ 2 ^ 32 := Nat.pow_le_pow_right (by decide) hr
  have h2 : x * 2 ^ r < 2 ^ 64 := Nat.lt_of_lt_of_le (Nat.mul_lt_mul_of_lt_of_le hx h1 (by decide)) (by decide)
  have e1 : (BitVec.ofInt 64 ((x * 2 ^ r : Nat) : Int)).toNat = x * 2 ^ r := by rw [BitVec.ofInt_natCast, BitVec.toNat_ofNat]; exact Nat.mod_eq_of_lt h2
  have e2 : (BitVec.ofInt 64 (c : Int)).toNat = c := by rw [BitVec.ofInt_natCast, BitVec.toNat_ofNat]; exact Nat.mod_eq_of_lt (by omega)
  rw [BitVec.toNat_or, e1, e2, Nat.mul_comm x, Nat.two_pow_add_eq_or_of_lt hc]
/-- One limb, shifted, with what was carried. -/
theorem step_or {x c : Int} {n : Nat} (hx : 0 ≤ x ∧ x < 4294967296) (hc : 0 ≤ c ∧ c < 2 ^ (n % 32)) :
    IntKind.u64.wrap (BitVec.ofInt 64 (IntKind.u64.wrap (x * 2 ^ min ((n : Int).tmod 32).toNat 64)) ||| BitVec.ofInt 64 c).toNat = x * 2 ^ (n % 32) + c := by
  obtain ⟨y, rfl⟩ := Int.eq_ofNat_of_zero_le hx.1
  obtain ⟨d, rfl⟩ := Int.eq_ofNat_of_zero_le hc.1
  have hd : d < 2 ^ (n % 32) := by
    have := hc.2
    exact_mod_cast this
  have e1 : min ((n : Int).tmod 32).toNat 64 = n % 32 := by
    have : ((n : Int).tmod 32) = ((n % 32 : Nat) : Int) := Int.ofNat_tmod n 32
    rw [this]; omega
  rw [e1]
  have h1 : 2 ^ (n % 32) ≤ 2 ^ 31 := Nat.pow_le_pow_right (by decide) (by omega)
  have hy : y < 4294967296 := by omega
  have h2 : y * 2 ^ (n % 32) < 2 ^ 63 := Nat.lt_of_lt_of_le (Nat.mul_lt_mul_of_lt_of_le hy h1 (by decide)) (by decide)
  have e2 : ((y : Nat) : Int) * 2 ^ (n % 32) = ((y * 2 ^ (n % 32) : Nat) : Int) := by simp
  rw [e2, wU (x := ((y * 2 ^ (n % 32) : Nat) : Int)) (by omega), or_add y (n % 32) d (by omega) hy hd, wU (by omega)]
  simp
noncomputable def body258 : Code := Tryz.f258.body.getD .skip
theorem y258 (a : List Int) (n : Nat) (hb : LB a) (ha : a.length ≤ 100000) (hn : n ≤ 100000) : Fn 258 [] [.sl .u32 a, .int .i64 n] (.sl .u32 (shlL a n)) [] := by
  have htl := trL_len a
  have h216 := y216 a (by omega)
  have hb2 := hb.tr
  unfold shlL
  generalize trL a = t at htl h216 hb2
  refine fnC_sound (code := body258) hT4 hmx Tryz.func258 rfl rfl (ex := []) ?_
  conv => whnf
  refine sem_cut hT4 hmx 4 (fun _ : Unit => ⟨[.sl .u32 t, .int .i64 n, .any, .any, .any, .own 20, .int .u64 0] ++ anys 40, [(20, .buf 113 .u32 (List.replicate (n / 32) 0)), (38, .dead), (100038, .free), (1500038, .free), (46, .free), (100046, .free), (1500046, .free)]⟩) (fun _ => by kernel_rfl) ?_ (fun _ => ?_)
  · have hq : IntKind.i64.wrap ((n : Int).tdiv 32) = ((n / 32 : Nat) : Int) := by
      rw [show (n : Int).tdiv 32 = ((n / 32 : Nat) : Int) from Int.ofNat_tdiv n 32, wI (by omega)]
    conv => whnf
    refine ⟨[], _, h216, ?_⟩
    conv => whnf
    refine ⟨by omega, ?_⟩
    conv => whnf
    refine ⟨by omega, ?_⟩
    conv => whnf
    rw [hq, wI (x := ((n / 32 : Nat) : Int) + (t.length : Int)) (by omega), wI (by omega)]
    refine ⟨⟨by omega, by omega, by omega⟩, ?_⟩
    conv => whnf
    refine ⟨(), ?_⟩
    ((conv => whnf); refine And.intro ?_ ?_; repeat' first | refine leL_cons ?_ ?_ | exact leA_any | exact leA_refl rfl | exact leL_nil | refine leH_cons ?_ ?_ | exact leH_nil | exact leB_free | exact leB_dead | refine leB_cells ?_ | exact leB_map rfl | exact leB_buf rfl | exact leB_gst rfl | exact leA_nil rfl | refine leA_agg ?_ | refine leA_tup ?_ | fail)
  · refine sem_swap 38 20 (by kernel_rfl) ?_
    conv => whnf
    refine sem_end hT4 hmx ?_
    conv => whnf
    refine ⟨Nat × List Int × Int, fun x => x.1 ≤ t.length ∧ x.2.1.length = n / 32 + x.1 ∧ (0 ≤ x.2.2 ∧ x.2.2 < 2 ^ (n % 32)) ∧ x.2.1 ++ shlGo (n % 32) (t.drop x.1) x.2.2 = List.replicate (n / 32) 0 ++ shlGo (n % 32) t 0, fun x => [(23, .int .i64 x.1), (5, .own 38), (6, .int .u64 x.2.2)], fun x => [(38, .buf 113 .u32 x.2.1)], fun x => t.length - x.1, (0, List.replicate (n / 32) 0, 0), ⟨by simp, by simp, ⟨by simp, by exact Int.pow_pos (by decide)⟩, by simp⟩, ?_, fun x hx => ?_⟩
    · ((conv => whnf); refine And.intro ?_ ?_; repeat' first | refine leL_cons ?_ ?_ | exact leA_any | exact leA_refl rfl | exact leL_nil | refine leH_cons ?_ ?_ | exact leH_nil | exact leB_free | exact leB_dead | refine leB_cells ?_ | exact leB_map rfl | exact leB_buf rfl | exact leB_gst rfl | exact leA_nil rfl | refine leA_agg ?_ | refine leA_tup ?_ | fail)
    (refine ⟨by kernel_rfl, ?_⟩; (conv => whnf))
    obtain ⟨i, out, c⟩ := x
    obtain ⟨hi1, hi2, hi3, hi4⟩ := hx
    simp only at hi1 hi2 hi3 hi4
    have hp31 : (2 : Int) ^ (n % 32) ≤ 2147483648 := by
      have h1 : 2 ^ (n % 32) ≤ 2 ^ 31 := Nat.pow_le_pow_right (by decide) (by omega)
      have h2 : (2 : Int) ^ (n % 32) = ((2 ^ (n % 32) : Nat) : Int) := by simp
      rw [h2]; omega
    refine brI (fun h1 => ?_) (fun h1 => ?_)
    · have hi : i < t.length := by simp only [decide_eq_true_eq] at h1; omega
      conv => whnf
      refine ⟨⟨by omega, by simp only; omega⟩, fun (x : Int) hx => ?_⟩
      have hx : t[i]? = some x := by simpa using hx
      have hxb := hb2 x (List.mem_of_getElem? hx)
      have hst := step_or (n := n) hxb hi3
      rw [drop_get hx] at hi4
      simp only [shlGo] at hi4
      obtain ⟨s, hs⟩ : ∃ s, x * 2 ^ (n % 32) + c = s := ⟨_, rfl⟩
      rw [hs] at hst hi4
      have hs0 : 0 ≤ s ∧ s < 4294967296 * 2 ^ (n % 32) := by
        have h1 : 0 ≤ x * 2 ^ (n % 32) := Int.mul_nonneg hxb.1 (by exact Int.pow_nonneg (by decide))
        have h2 : x * 2 ^ (n % 32) ≤ 4294967295 * 2 ^ (n % 32) := Int.mul_le_mul_of_nonneg_right (by omega) (by exact Int.pow_nonneg (by decide))
        omega
      conv => whnf
      rw [wU (x := x) (by omega)]
      refine ⟨by omega, ?_⟩
      conv => whnf
      refine ⟨by have h9 : ((n : Int).tmod 32) = ((n % 32 : Nat) : Int) := Int.ofNat_tmod n 32; omega, ?_⟩
      conv => whnf
      refine ⟨by simp only [List.length_cons, List.length_nil]; omega, ?_⟩
      conv => whnf
      refine ⟨by omega, ?_⟩
      conv => whnf
      refine ⟨(i + 1, out ++ [s % 4294967296], s / 4294967296), ⟨by simp only; omega, by simp only [List.length_append, List.length_cons, List.length_nil]; omega, ⟨by simp only; omega, by simp only; omega⟩, by rw [List.append_assoc]; exact hi4⟩, by show t.length - (i + 1) < t.length - i; omega, ?_⟩
      have e1 : IntKind.u32.wrap s = s % 4294967296 := by simp [IntKind.wrap, IntKind.signed, IntKind.bits]
      have e2 : s.fdiv 4294967296 = s / 4294967296 := Int.fdiv_eq_ediv_of_nonneg _ (by decide)
      ((conv => whnf); refine And.intro ?_ ?_; repeat' first | refine leL_cons ?_ ?_ | exact leA_any | exact leA_refl rfl | exact leL_nil | refine leH_cons ?_ ?_ | exact leH_nil | exact leB_free | exact leB_dead | refine leB_cells ?_ | exact leB_map rfl | exact leB_buf rfl | exact leB_gst rfl | exact leA_nil rfl | refine leA_agg ?_ | refine leA_tup ?_ | fail)
      · exact leA_int ((congrArg (fun z : Int => z.fdiv 4294967296) hst).trans e2)
      · exact leA_int (by rw [wI (by simp only; omega)]; simp only; omega)
      · exact leB_buf (by
          show out ++ [_] = out ++ [s % 4294967296]
          rw [← e1, ← hst]; rfl)
      all_goals trace_state
    · have hi : ¬ i < t.length := by simp only [decide_eq_false_iff_not] at h1; omega
      rw [List.drop_of_length_le (by omega)] at hi4
      simp only [shlGo] at hi4
      conv => whnf
      refine ⟨by simp only [List.length_cons, List.length_nil]; omega, ?_⟩
      conv => whnf
      refine ⟨leA_sl ?_, leH_nil⟩
      rw [← hi4]
      show out ++ [IntKind.u32.wrap c] = out ++ [c]
      congr 2
      simp [IntKind.wrap, IntKind.signed, IntKind.bits]; omega
end Go.Proofs.YtnijmbnkcmhfpaaGreatDoor

/-
  Natural numbers as limbs: Shl, shr, Shr.
-/
namespace Go.Proofs.YtnijmbnkcmhfpaaGreatDoor
open Go Go.Sx
set_option maxRecDepth 100000
set_option maxHeartbeats 8000000
def shlR (a : List Int) (n : Int) : List Int × Int := if 256 < a.length then ([], 9) else if n < 0 ∨ 65536 < n then ([], 2) else dnL (shlL a n.toNat)
theorem leN {h h' : Hp} {e : Int} : leA h h' (.tup [.nilsl, .int .i64 e]) (dnV ([], e)) := leA_tup (leL_cons (leA_nil rfl) (leL_cons (leA_refl rfl) leL_nil))
theorem lg1 (a : List Int) : [a].any lgB = decide (256 < a.length) := by simp [lgB]
theorem y218 (a : List Int) (n : Int) (hb : LB a) (hl : a.length ≤ 100000) : Fn 218 [] [.sl .u32 a, .int .i64 n] (dnV (shlR a n)) [] := by
  obtain ⟨A, hA⟩ : ∃ A, shlR a n = A := ⟨_, rfl⟩
  rw [hA]
  unfold shlR at hA
  have h215 := y215 [a] (by simp)
  rw [lg1] at h215
  refine fnT hT4 hmx Tryz.func218 rfl rfl (ex := []) ?_
  conv => whnf
  refine cbI [] _ h215 (fun h1 => ?_) (fun h1 => ?_)
  · rw [if_pos (of_decide_eq_true h1)] at hA
    subst hA
    conv => whnf
    exact ⟨leN, leH_nil⟩
  have h1 := of_decide_eq_false h1
  rw [if_neg h1] at hA
  conv => whnf
  refine brI (fun h2 => ?_) (fun h2 => ?_)
  · have h2 : n < 0 := by simpa using h2
    rw [if_pos (.inl h2)] at hA
    subst hA
    conv => whnf
    exact ⟨leN, leH_nil⟩
  have h2 : ¬ n < 0 := by simpa using h2
  conv => whnf
  refine brI (fun h3 => ?_) (fun h3 => ?_)
  · have h3 : 65536 < n := by simpa using h3
    rw [if_pos (.inr h3)] at hA
    subst hA
    conv => whnf
    exact ⟨leN, leH_nil⟩
  have h3 : ¬ 65536 < n := by simpa using h3
  rw [if_neg (by omega)] at hA
  have h258 := y258 a n.toNat hb hl (by omega)
  have hlen : (shlL a n.toNat).length ≤ 1000000 := by
    have := trL_len a
    unfold shlL; rw [List.length_append, List.length_replicate, shlGo_len]; omega
  have h221 := y221 (shlL a n.toNat) hlen
  rw [hA, show ((n.toNat : Nat) : Int) = n by omega] at *
  conv => whnf
  refine ⟨[], _, h258, ?_⟩
  conv => whnf
  refine ⟨[], _, h221, ?_⟩
  conv => whnf
  exact ⟨leA_refl rfl, leH_nil⟩
theorem y167 (a : List Int) (n : Int) (hb : LB a) (hl : a.length ≤ 100000) : Fn 167 [] [.sl .u32 a, .int .i64 n] (.sl .u32 (shlR a n).1) [] := by
  refine fnT hT4 hmx Tryz.func167 rfl rfl (ex := []) ?_
  conv => whnf
  refine ⟨[], _, y218 a n hb hl, ?_⟩
  conv => whnf
  exact ⟨leA_refl rfl, leH_nil⟩
def shrAt (l : List Int) (r i : Nat) : Int := ((l[i]?.getD 0 + l[i + 1]?.getD 0 * 4294967296) / 2 ^ r) % 4294967296
def shrGo (l : List Int) (r : Nat) : List Int := (List.range l.length).map (shrAt l r)
def shrL (a : List Int) (n : Nat) : List Int := if (trL a).length ≤ n / 32 then [] else shrGo ((trL a).drop (n / 32)) (n % 32)
theorem shrL_len (a : List Int) (n : Nat) : (shrL a n).length ≤ a.length := by
  have := trL_len a
  unfold shrL
  split
  · simp
  · simp only [shrGo, List.length_map, List.length_range, List.length_drop]; omega
theorem set_step {F : List Int} {i n : Nat} {x : Int} (h : F[i]? = some x) (hn : F.length = n) : (F.take i ++ List.replicate (n - i) 0).set i x = F.take (i + 1) ++ List.replicate (n - (i + 1)) 0 := by
  have hi := (List.getElem?_eq_some_iff.1 h).1
  have hl : (F.take i).length = i := by rw [List.length_take]; omega
  obtain ⟨m, hm⟩ : ∃ m, n - i = m + 1 := ⟨n - i - 1, by omega⟩
  rw [hm, show n - (i + 1) = m by omega, List.replicate_succ, List.set_append_right _ _ (by omega), hl, Nat.sub_self, List.set_cons_zero, List.take_add_one, h]
  simp
theorem or_add2 {x y : Int} (hx : 0 ≤ x ∧ x < 4294967296) (hy : 0 ≤ y ∧ y < 4294967296) :
    IntKind.u64.wrap (BitVec.ofInt 64 x ||| BitVec.ofInt 64 (IntKind.u64.wrap (y * 4294967296))).toNat = x + y * 4294967296 := by
  obtain ⟨a, rfl⟩ := Int.eq_ofNat_of_zero_le hx.1
  obtain ⟨b, rfl⟩ := Int.eq_ofNat_of_zero_le hy.1
  have e2 : ((b : Nat) : Int) * 4294967296 = ((b * 2 ^ 32 : Nat) : Int) := by simp
  rw [e2, wU (x := ((b * 2 ^ 32 : Nat) : Int)) (by omega), BitVec.or_comm, or_add b 32 a (by omega) (by omega) (by omega), wU (by omega)]
  omega
theorem y222 (a : List Int) (n : Nat) (hb : LB a) (hl : a.length ≤ 100000) (hn : n ≤ 100000) : Fn 222 [] [.sl .u32 a, .int .i64 n] (.sl .u32 (shrL a n)) [] := by
  have htl := trL_len a
  have h216 := y216 a (by omega)
  have hb2 := hb.tr
  obtain ⟨A, hA⟩ : ∃ A, shrL a n = A := ⟨_, rfl⟩
  rw [hA]
  unfold shrL at hA
  generalize trL a = t at htl h216 hb2 hA
  have hq : IntKind.i64.wrap ((n : Int).tdiv 32) = ((n / 32 : Nat) : Int) := by
    rw [show (n : Int).tdiv 32 = ((n / 32 : Nat) : Int) from Int.ofNat_tdiv n 32, wI (by omega)]
  refine fnT hT4 hmx Tryz.func222 rfl rfl (ex := []) ?_
  conv => whnf
  refine ⟨[], _, h216, ?_⟩
  conv => whnf
  refine ⟨by omega, ?_⟩
  conv => whnf
  rw [hq]
  refine brI (fun h1 => ?_) (fun h1 => ?_)
  · have h1 : t.length ≤ n / 32 := by simp only [decide_eq_true_eq] at h1; omega
    rw [if_pos h1] at hA
    subst hA
    conv => whnf
    exact ⟨leA_nil rfl, leH_nil⟩
  have h1 : ¬ t.length ≤ n / 32 := by simp only [decide_eq_false_iff_not] at h1; omega
  rw [if_neg h1] at hA
  conv => whnf
  refine ⟨by omega, ?_⟩
  conv => whnf
  rw [hq]
  refine ⟨⟨by omega, by omega, by omega⟩, ?_⟩
  have hu : ((t.take ((t.length : Int)).toNat).drop (((n / 32 : Nat) : Int)).toNat) = t.drop (n / 32) := by rw [show ((t.length : Int)).toNat = t.length by omega, List.take_length, show ((((n / 32 : Nat) : Int))).toNat = n / 32 by omega]
  have hb3 : LB (t.drop (n / 32)) := fun x hx => hb2 x (List.mem_of_mem_drop hx)
  have hul : (t.drop (n / 32)).length ≤ 100000 := by rw [List.length_drop]; omega
  rw [hu]
  generalize t.drop (n / 32) = u at hA hb3 hul
  conv => whnf
  refine ⟨⟨by omega, by omega, by omega⟩, ?_⟩
  conv => whnf
  refine ⟨Nat, fun i => i ≤ u.length, fun i => [(25, .int .i64 i)], fun i => [(22, .buf 113 .u32 (A.take i ++ List.replicate (u.length - i) 0))], fun i => u.length - i, 0, by simp, ?_, fun i hi => ?_⟩
  · ((conv => whnf); refine And.intro ?_ ?_; repeat' first | refine leL_cons ?_ ?_ | exact leA_any | exact leA_refl rfl | exact leL_nil | refine leH_cons ?_ ?_ | exact leH_nil | exact leB_free | exact leB_dead | refine leB_cells ?_ | exact leB_map rfl | exact leB_buf rfl | exact leB_gst rfl | exact leA_nil rfl | refine leA_agg ?_ | refine leA_tup ?_ | fail)
  (refine ⟨by kernel_rfl, ?_⟩; (conv => whnf))
  have hi : i ≤ u.length := hi
  have hAl : A.length = u.length := by rw [← hA]; simp [shrGo]
  refine brI (fun h2 => ?_) (fun h2 => ?_)
  · have hi : i < u.length := by simp only [decide_eq_true_eq] at h2; omega
    conv => whnf
    refine ⟨⟨by omega, by omega⟩, fun (x : Int) hx => ?_⟩
    have hx : u[i]? = some x := by simpa using hx
    have hxb := hb3 x (List.mem_of_getElem? hx)
    have hF : A[i]? = some (shrAt u (n % 32) i) := by rw [← hA]; simp [shrGo, hi]
    have hstep := set_step hF hAl
    have hp : (0 : Int) < 2 ^ (n % 32) := Int.pow_pos (by decide)
    have htm : ((n : Int).tmod 32) = ((n % 32 : Nat) : Int) := Int.ofNat_tmod n 32
    have hfin : ∀ s : Int, 0 ≤ s → IntKind.u32.wrap (s.fdiv (2 ^ min ((n : Int).tmod 32).toNat 64)) = (s / 2 ^ (n % 32)) % 4294967296 := fun s hs => by
      rw [htm, show min ((n % 32 : Nat) : Int).toNat 64 = n % 32 by omega, Int.fdiv_eq_ediv_of_nonneg _ (by omega)]
      simp [IntKind.wrap, IntKind.signed, IntKind.bits]
    conv => whnf
    refine brI (fun h3 => ?_) (fun h3 => ?_)
    · have h3 : i + 1 < u.length := by
        have h3 : decide (IntKind.i64.wrap ((i : Int) + 1) < (u.length : Int)) = true := h3
        rw [wI (by omega)] at h3
        simp only [decide_eq_true_eq] at h3; omega
      conv => whnf
      rw [wI (x := (i : Int) + 1) (by omega)]
      refine ⟨⟨by omega, by omega⟩, fun (y : Int) hy => ?_⟩
      have hy : u[i + 1]? = some y := by
        have hy : u[((i : Int) + 1).toNat]? = some y := hy
        rw [show ((i : Int) + 1).toNat = i + 1 by omega] at hy; exact hy
      have hyb := hb3 y (List.mem_of_getElem? hy)
      have hor := or_add2 hxb hyb
      conv => whnf
      rw [wU (x := x) (by omega), wU (x := y) (by omega)]
      refine ⟨by omega, ?_⟩
      conv => whnf
      refine ⟨by omega, ?_⟩
      conv => whnf
      refine ⟨by omega, ?_⟩
      conv => whnf
      have hlen : (A.take i ++ List.replicate (u.length - i) 0).length = u.length := by rw [List.length_append, List.length_replicate, List.length_take]; omega
      refine ⟨⟨by omega, by rw [hlen]; omega⟩, ?_⟩
      conv => whnf
      refine ⟨by show (i : Int).toNat < _; rw [hlen]; omega, ?_⟩
      conv => whnf
      refine ⟨i + 1, by omega, by show u.length - (i + 1) < u.length - i; omega, ?_⟩
      ((conv => whnf); refine And.intro ?_ ?_; repeat' first | refine leL_cons ?_ ?_ | exact leA_any | exact leA_refl rfl | exact leL_nil | refine leH_cons ?_ ?_ | exact leH_nil | exact leB_free | exact leB_dead | refine leB_cells ?_ | exact leB_map rfl | exact leB_buf rfl | exact leB_gst rfl | exact leA_nil rfl | refine leA_agg ?_ | refine leA_tup ?_ | fail)
      · exact leA_int (by rw [wI (by omega)]; omega)
      · exact leB_buf (by
          rw [← hstep]
          show List.set _ (i : Int).toNat _ = _
          rw [show (i : Int).toNat = i by omega]
          congr 1
          rw [shrAt, hx, hy]
          show _ = (x + y * 4294967296) / 2 ^ (n % 32) % 4294967296
          rw [← hfin _ (by omega), ← hor]; rfl)
    · have h3 : ¬ i + 1 < u.length := by
        have h3 : decide (IntKind.i64.wrap ((i : Int) + 1) < (u.length : Int)) = false := h3
        rw [wI (by omega)] at h3
        simp only [decide_eq_false_iff_not] at h3; omega
      have hy : u[i + 1]? = none := List.getElem?_eq_none (by omega)
      conv => whnf
      rw [wU (x := x) (by omega)]
      refine ⟨by omega, ?_⟩
      conv => whnf
      refine ⟨by omega, ?_⟩
      conv => whnf
      have hlen : (A.take i ++ List.replicate (u.length - i) 0).length = u.length := by rw [List.length_append, List.length_replicate, List.length_take]; omega
      refine ⟨⟨by omega, by rw [hlen]; omega⟩, ?_⟩
      conv => whnf
      refine ⟨by show (i : Int).toNat < _; rw [hlen]; omega, ?_⟩
      conv => whnf
      refine ⟨i + 1, by omega, by show u.length - (i + 1) < u.length - i; omega, ?_⟩
      ((conv => whnf); refine And.intro ?_ ?_; repeat' first | refine leL_cons ?_ ?_ | exact leA_any | exact leA_refl rfl | exact leL_nil | refine leH_cons ?_ ?_ | exact leH_nil | exact leB_free | exact leB_dead | refine leB_cells ?_ | exact leB_map rfl | exact leB_buf rfl | exact leB_gst rfl | exact leA_nil rfl | refine leA_agg ?_ | refine leA_tup ?_ | fail)
      · exact leA_int (by rw [wI (by omega)]; omega)
      · exact leB_buf (by
          rw [← hstep]
          show List.set _ (i : Int).toNat _ = _
          rw [show (i : Int).toNat = i by omega]
          congr 1
          rw [shrAt, hx, hy]
          show _ = (x + 0 * 4294967296) / 2 ^ (n % 32) % 4294967296
          rw [Int.zero_mul, Int.add_zero, ← hfin _ (by omega)]; rfl)
  · have hi : i = u.length := by simp only [decide_eq_false_iff_not] at h2; omega
    subst hi
    conv => whnf
    refine ⟨leA_sl ?_, leH_nil⟩
    rw [Nat.sub_self, List.replicate_zero, List.append_nil, List.take_of_length_le (by omega)]
def shrR (a : List Int) (n : Int) : List Int × Int := if 256 < a.length then ([], 9) else if n < 0 ∨ 65536 < n then ([], 2) else dnL (shrL a n.toNat)
theorem y172 (a : List Int) (n : Int) (hb : LB a) (hl : a.length ≤ 100000) : Fn 172 [] [.sl .u32 a, .int .i64 n] (dnV (shrR a n)) [] := by
  obtain ⟨A, hA⟩ : ∃ A, shrR a n = A := ⟨_, rfl⟩
  rw [hA]
  unfold shrR at hA
  have h215 := y215 [a] (by simp)
  rw [lg1] at h215
  refine fnT hT4 hmx Tryz.func172 rfl rfl (ex := []) ?_
  conv => whnf
  refine cbI [] _ h215 (fun h1 => ?_) (fun h1 => ?_)
  · rw [if_pos (of_decide_eq_true h1)] at hA
    subst hA
    conv => whnf
    exact ⟨leN, leH_nil⟩
  have h1 := of_decide_eq_false h1
  rw [if_neg h1] at hA
  conv => whnf
  refine brI (fun h2 => ?_) (fun h2 => ?_)
  · have h2 : n < 0 := by simpa using h2
    rw [if_pos (.inl h2)] at hA
    subst hA
    conv => whnf
    exact ⟨leN, leH_nil⟩
  have h2 : ¬ n < 0 := by simpa using h2
  conv => whnf
  refine brI (fun h3 => ?_) (fun h3 => ?_)
  · have h3 : 65536 < n := by simpa using h3
    rw [if_pos (.inr h3)] at hA
    subst hA
    conv => whnf
    exact ⟨leN, leH_nil⟩
  have h3 : ¬ 65536 < n := by simpa using h3
  rw [if_neg (by omega)] at hA
  have h222 := y222 a n.toNat hb hl (by omega)
  have hlen := shrL_len a n.toNat
  have h221 := y221 (shrL a n.toNat) (by omega)
  rw [hA] at h221
  rw [show ((n.toNat : Nat) : Int) = n by omega] at h222
  conv => whnf
  refine ⟨[], _, h222, ?_⟩
  conv => whnf
  refine ⟨[], _, h221, ?_⟩
  conv => whnf
  exact ⟨leA_refl rfl, leH_nil⟩
end Go.Proofs.YtnijmbnkcmhfpaaGreatDoor
