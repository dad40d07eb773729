/-
  The reference's dyadic numbers (layer 2), at small values.
-/
import Derived.Test.YtnijmbnkcmhfpaaGreatDoorQYc
import Derived.Test.YtnijmbnkcmhfpaaGreatDoorQZz
import Derived.Test.YtnijmbnkcmhfpaaGreatDoorQUb
import Derived.Test.YtnijmbnkcmhfpaaGreatDoorQUa
import Derived.Test.YtnijmbnkcmhfpaaGreatDoorQVa
set_option linter.unusedVariables false
set_option linter.unusedSimpArgs false
namespace Go.Proofs.YtnijmbnkcmhfpaaGreatDoor
open Go Go.Sx
set_option maxRecDepth 100000
set_option maxHeartbeats 8000000
theorem y247 (l : List Int) (hl : l.length ≤ 1000000) : Fn 247 [] [.sl .u32 l] (.sl .u32 (trL l)) [] := by
  refine fnT hT4 hmx Tryz.func247 rfl rfl (ex := []) ?_
  conv => whnf
  refine ⟨Nat, fun n => n ≤ l.length ∧ trN l n = trN l l.length, fun n => [(3, .int .i64 n)], fun _ => [], fun n => n, l.length, ⟨Nat.le_refl _, rfl⟩, ?_, fun n hn => ?_⟩
  · ((conv => whnf); refine And.intro ?_ ?_; repeat' first | refine leL_cons ?_ ?_ | exact leA_any | exact leA_refl rfl | exact leL_nil | refine leH_cons ?_ ?_ | exact leH_nil | exact leB_free | exact leB_dead | refine leB_cells ?_ | exact leB_map rfl | exact leB_gst rfl | exact leA_nil rfl | refine leA_agg ?_ | refine leA_tup ?_ | fail)
  (refine ⟨by kernel_rfl, ?_⟩; (conv => whnf))
  obtain ⟨hn1, hn2⟩ := hn
  refine brI (fun h1 => ?_) (fun h1 => ?_)
  · have h1 : 0 < n := by simp only [decide_eq_true_eq] at h1; omega
    obtain ⟨m, rfl⟩ : ∃ m, n = m + 1 := ⟨n - 1, by omega⟩
    have hw : IntKind.i64.wrap (((m + 1 : Nat) : Int) - 1) = (m : Int) := by rw [wI (by omega)]; omega
    conv => whnf
    rw [hw]
    refine ⟨⟨by omega, by omega⟩, fun x hx => ?_⟩
    have hx : l[m]? = some x := by simpa using hx
    simp only [trN, hx, Option.getD_some] at hn2
    conv => whnf
    refine brI (fun h2 => ?_) (fun h2 => ?_)
    · have h2 : x = 0 := by simpa using h2
      rw [if_pos h2] at hn2
      conv => whnf
      refine ⟨m, ⟨by omega, hn2⟩, by show m < m + 1; omega, ?_⟩
      ((conv => whnf); refine And.intro ?_ ?_; repeat' first | refine leL_cons ?_ ?_ | exact leA_any | exact leA_refl rfl | exact leL_nil | refine leH_cons ?_ ?_ | exact leH_nil | exact leB_free | exact leB_dead | refine leB_cells ?_ | exact leB_map rfl | exact leB_gst rfl | exact leA_nil rfl | refine leA_agg ?_ | refine leA_tup ?_ | fail)
      exact leA_int hw
    · have h2 : ¬ x = 0 := by simpa using h2
      rw [if_neg h2] at hn2
      conv => whnf
      refine ⟨⟨by omega, by omega, by omega⟩, ?_⟩
      conv => whnf
      refine ⟨by simp; omega, ?_⟩
      conv => whnf
      exact ⟨leA_sl (by rw [trL, ← hn2]; try simp), leH_nil⟩
  · have h1 : n = 0 := by simp only [decide_eq_false_iff_not] at h1; omega
    subst h1
    simp only [trN] at hn2
    conv => whnf
    refine ⟨⟨by omega, by omega, by omega⟩, ?_⟩
    conv => whnf
    refine ⟨by simp, ?_⟩
    conv => whnf
    exact ⟨leA_sl (by rw [trL, ← hn2]; try simp), leH_nil⟩
theorem y205 : Fn 205 [] [.sl .u32 [1]] (.int .i64 1) [] := by
  refine fnT hT4 hmx Tryz.func205 rfl rfl (ex := []) ?_
  conv => whnf
  refine ixh0 ?_
  conv => whnf
  refine ⟨Nat, fun i => i ≤ 1, fun i => [(3, .int .i64 i), (4, .int .u32 (if i = 0 then 1 else 0))], fun _ => [], fun i => 1 - i, 0, by simp, ?_, fun i hi => ?_⟩
  · ((conv => whnf); refine And.intro ?_ ?_; repeat' first | refine leL_cons ?_ ?_ | exact leA_any | exact leA_refl rfl | exact leL_nil | refine leH_cons ?_ ?_ | exact leH_nil | exact leB_free | exact leB_dead | refine leB_cells ?_ | exact leB_map rfl | exact leB_gst rfl | exact leA_nil rfl | refine leA_agg ?_ | refine leA_tup ?_ | fail)
  obtain rfl | rfl : i = 0 ∨ i = 1 := by omega
  · (refine ⟨by kernel_rfl, ?_⟩; (conv => whnf))
    refine ⟨by decide, ?_⟩
    conv => whnf
    refine ⟨1, by decide, by decide, ?_⟩
    ((conv => whnf); refine And.intro ?_ ?_; repeat' first | refine leL_cons ?_ ?_ | exact leA_any | exact leA_refl rfl | exact leL_nil | refine leH_cons ?_ ?_ | exact leH_nil | exact leB_free | exact leB_dead | refine leB_cells ?_ | exact leB_map rfl | exact leB_gst rfl | exact leA_nil rfl | refine leA_agg ?_ | refine leA_tup ?_ | fail)
  · (refine ⟨by kernel_rfl, ?_⟩; (conv => whnf))
    exact ⟨leA_refl rfl, leH_nil⟩
theorem y59 (a : List Int) (ha : a.length ≤ 1000000) : Fn 59 [] [.sl .u32 a, .sl .u32 a] (.int .i64 0) [] := by
  refine fnT hT4 hmx Tryz.func59 rfl rfl (ex := []) ?_
  conv => whnf
  refine brI (fun h1 => ?_) (fun _ => ?_)
  · have h1 : ((a.length : Int) != (a.length : Int)) = true := h1
    simp at h1
  conv => whnf
  refine ⟨Nat, fun n => n ≤ a.length, fun n => [(5, .int .i64 (n - 1))], fun _ => [], fun n => n, a.length, Nat.le_refl _, ?_, fun n hn => ?_⟩
  · ((conv => whnf); refine And.intro ?_ ?_; repeat' first | refine leL_cons ?_ ?_ | exact leA_any | exact leA_refl rfl | exact leL_nil | refine leH_cons ?_ ?_ | exact leH_nil | exact leB_free | exact leB_dead | refine leB_cells ?_ | exact leB_map rfl | exact leB_gst rfl | exact leA_nil rfl | refine leA_agg ?_ | refine leA_tup ?_ | fail)
    exact leA_int (by rw [wI (by omega)])
  (refine ⟨by kernel_rfl, ?_⟩; (conv => whnf))
  refine brI (fun h1 => ?_) (fun h1 => ?_)
  · have h1 : 0 < n := by simp only [decide_eq_true_eq] at h1; omega
    obtain ⟨m, rfl⟩ : ∃ m, n = m + 1 := ⟨n - 1, by omega⟩
    have hm : (((m + 1 : Nat) : Int) - 1) = m := by omega
    conv => whnf
    rw [hm]
    refine ⟨⟨by omega, by omega⟩, fun x hx => ?_⟩
    have hx : a[m]? = some x := by simpa using hx
    conv => whnf
    refine ⟨⟨by omega, by omega⟩, fun y hy => ?_⟩
    have hy : a[m]? = some y := by simpa using hy
    obtain rfl : x = y := by rw [hx] at hy; exact Option.some.inj hy
    conv => whnf
    (refine ⟨by kernel_rfl, by kernel_rfl, ?_⟩; (conv => whnf))
    refine brI (fun h2 => by simp at h2) (fun _ => ?_)
    conv => whnf
    refine ⟨⟨by omega, by omega⟩, fun x' hx' => ?_⟩
    have hx' : a[m]? = some x' := by simpa using hx'
    conv => whnf
    refine ⟨⟨by omega, by omega⟩, fun y' hy' => ?_⟩
    have hy' : a[m]? = some y' := by simpa using hy'
    obtain rfl : x' = y' := by rw [hx'] at hy'; exact Option.some.inj hy'
    conv => whnf
    (refine ⟨by kernel_rfl, by kernel_rfl, ?_⟩; (conv => whnf))
    refine brI (fun h2 => by simp at h2) (fun _ => ?_)
    conv => whnf
    refine ⟨m, by show m ≤ a.length; omega, by show m < m + 1; omega, ?_⟩
    ((conv => whnf); refine And.intro ?_ ?_; repeat' first | refine leL_cons ?_ ?_ | exact leA_any | exact leA_refl rfl | exact leL_nil | refine leH_cons ?_ ?_ | exact leH_nil | exact leB_free | exact leB_dead | refine leB_cells ?_ | exact leB_map rfl | exact leB_gst rfl | exact leA_nil rfl | refine leA_agg ?_ | refine leA_tup ?_ | fail)
    exact leA_int (by rw [wI (by omega)])
  · conv => whnf
    exact ⟨leA_refl rfl, leH_nil⟩
noncomputable def body206 : Code := Tryz.f206.body.getD .skip
theorem tr10 : trL [1, 0] = [1] := by decide +kernel
theorem tr0 : trL [0] = [] := by decide +kernel
theorem trn : trL [] = [] := by decide +kernel
theorem y206 : Fn 206 [] [.sl .u32 [1], .int .i64 0] (.sl .u32 [1]) [] := by
  have h247 := y247 [1, 0] (by decide)
  rw [tr10] at h247
  refine fnC_sound (code := body206) hT4 hmx Tryz.func206 rfl rfl (ex := []) ?_
  conv => whnf
  refine sem_cut hT4 hmx 3 (fun _ : Unit => ⟨[.sl .u32 [1], .int .i64 0, .any, .any, .any, .own 11, .int .u64 0] ++ anys 36, [(11, .buf 113 .u32 []), (34, .dead), (100034, .free), (1500034, .free), (41, .free), (100041, .free), (1500041, .free)]⟩) (fun _ => by kernel_rfl) ?_ (fun _ => ?_)
  · conv => whnf
    refine ⟨by decide, ?_⟩
    conv => whnf
    refine ⟨⟨by decide, by decide, by decide⟩, ?_⟩
    conv => whnf
    refine ⟨(), ?_⟩
    ((conv => whnf); refine And.intro ?_ ?_; repeat' first | refine leL_cons ?_ ?_ | exact leA_any | exact leA_refl rfl | exact leL_nil | refine leH_cons ?_ ?_ | exact leH_nil | exact leB_free | exact leB_dead | refine leB_cells ?_ | exact leB_map rfl | exact leB_buf rfl | exact leB_gst rfl | exact leA_nil rfl | refine leA_agg ?_ | refine leA_tup ?_ | fail)
  · refine sem_swap 34 11 (by kernel_rfl) ?_
    conv => whnf
    refine sem_end hT4 hmx ?_
    conv => whnf
    refine ⟨Nat, fun i => i ≤ 1, fun i => [(7, .int .i64 i), (5, .own 34), (6, .int .u64 0)], fun i => [(34, .buf 113 .u32 (if i = 0 then [] else [1]))], fun i => 1 - i, 0, by simp, ?_, fun i hi => ?_⟩
    · ((conv => whnf); refine And.intro ?_ ?_; repeat' first | refine leL_cons ?_ ?_ | exact leA_any | exact leA_refl rfl | exact leL_nil | refine leH_cons ?_ ?_ | exact leH_nil | exact leB_free | exact leB_dead | refine leB_cells ?_ | exact leB_map rfl | exact leB_buf rfl | exact leB_gst rfl | exact leA_nil rfl | refine leA_agg ?_ | refine leA_tup ?_ | fail)
    obtain rfl | rfl : i = 0 ∨ i = 1 := by omega
    · (refine ⟨by kernel_rfl, ?_⟩; (conv => whnf))
      refine ixh0 ?_
      conv => whnf
      refine ⟨by decide, ?_⟩
      conv => whnf
      refine ⟨by decide, ?_⟩
      conv => whnf
      refine ⟨by decide, ?_⟩
      conv => whnf
      refine ⟨by decide, ?_⟩
      conv => whnf
      refine ⟨1, by decide, by decide, ?_⟩
      ((conv => whnf); refine And.intro ?_ ?_; repeat' first | refine leL_cons ?_ ?_ | exact leA_any | exact leA_refl rfl | exact leL_nil | refine leH_cons ?_ ?_ | exact leH_nil | exact leB_free | exact leB_dead | refine leB_cells ?_ | exact leB_map rfl | exact leB_buf rfl | exact leB_gst rfl | exact leA_nil rfl | refine leA_agg ?_ | refine leA_tup ?_ | fail)
    · (refine ⟨by kernel_rfl, ?_⟩; (conv => whnf))
      refine ⟨by decide, ?_⟩
      conv => whnf
      refine ⟨[], _, h247, ?_⟩
      conv => whnf
      exact ⟨leA_refl rfl, leH_nil⟩
theorem y209 : Fn 209 [] [.sl .u32 [1], .sl .u32 [1]] (.sl .u32 []) [] := by
  have h247 := y247 [0] (by decide)
  rw [tr0] at h247
  refine fnT hT4 hmx Tryz.func209 rfl rfl (ex := []) ?_
  conv => whnf
  refine ⟨Nat, fun i => i ≤ 1, fun i => [(7, .int .i64 i), (5, .own 41), (6, .int .u64 0)], fun i => [(41, .buf 113 .u32 (if i = 0 then [] else [0]))], fun i => 1 - i, 0, by simp, ?_, fun i hi => ?_⟩
  · ((conv => whnf); refine And.intro ?_ ?_; repeat' first | refine leL_cons ?_ ?_ | exact leA_any | exact leA_refl rfl | exact leL_nil | refine leH_cons ?_ ?_ | exact leH_nil | exact leB_free | exact leB_dead | refine leB_cells ?_ | exact leB_map rfl | exact leB_buf rfl | exact leB_gst rfl | exact leA_nil rfl | refine leA_agg ?_ | refine leA_tup ?_ | fail)
    all_goals first | exact trivial | exact ⟨rfl, rfl⟩
  obtain rfl | rfl : i = 0 ∨ i = 1 := by omega
  · (refine ⟨by kernel_rfl, ?_⟩; (conv => whnf))
    refine ixh0 ?_
    conv => whnf
    refine ixh0 ?_
    conv => whnf
    refine ⟨by decide, ?_⟩
    conv => whnf
    refine ⟨by decide, ?_⟩
    conv => whnf
    refine ⟨1, by decide, by decide, ?_⟩
    ((conv => whnf); refine And.intro ?_ ?_; repeat' first | refine leL_cons ?_ ?_ | exact leA_any | exact leA_refl rfl | exact leL_nil | refine leH_cons ?_ ?_ | exact leH_nil | exact leB_free | exact leB_dead | refine leB_cells ?_ | exact leB_map rfl | exact leB_buf rfl | exact leB_gst rfl | exact leA_nil rfl | refine leA_agg ?_ | refine leA_tup ?_ | fail)
  · (refine ⟨by kernel_rfl, ?_⟩; (conv => whnf))
    refine ⟨[], _, h247, ?_⟩
    conv => whnf
    exact ⟨leA_refl rfl, leH_nil⟩
theorem y207 (neg : Bool) : Fn 207 [] [.bool neg, .sl .u32 [], .int .i64 0] (.agg (dyC d0)) [] := by
  have h247 := y247 [] (by decide)
  rw [trn] at h247
  refine fnT hT4 hmx Tryz.func207 rfl rfl (ex := []) ?_
  conv => whnf
  refine ⟨[], _, h247, ?_⟩
  conv => whnf
  exact ⟨leD0, leH_nil⟩
theorem y152 (neg : Bool) : Fn 152 [] [.agg (dyC (pm neg))] (.agg (dyC (pm !neg))) [] := by
  cases neg
  all_goals
    refine fnT hT4 hmx Tryz.func152 rfl rfl (ex := []) ?_
    conv => whnf
    exact ⟨leA_refl rfl, leH_nil⟩
theorem y151 (neg : Bool) : Fn 151 [] [.agg (dyC (pm neg)), .agg (dyC (pm !neg))] (.agg (dyC d0)) [] := by
  have h206 := y206
  have h209 := y209
  have h59 := y59 [1] (by decide)
  cases neg
  all_goals
    refine fnT hT4 hmx Tryz.func151 rfl rfl (ex := []) ?_
    conv => whnf
    refine ⟨[], _, h206, ?_⟩
    conv => whnf
    refine ⟨[], _, h206, ?_⟩
    conv => whnf
    (refine ⟨by kernel_rfl, by kernel_rfl, ?_⟩; (conv => whnf))
    refine ⟨[], _, h59, ?_⟩
    conv => whnf
    refine ⟨[], _, h209, ?_⟩
    conv => whnf
    refine ⟨[], _, y207 _, ?_⟩
    conv => whnf
    (refine ⟨by kernel_rfl, by kernel_rfl, ?_⟩; (conv => whnf))
    exact ⟨leA_refl rfl, leH_nil⟩
theorem y150 (neg : Bool) : Fn 150 [] [.agg (dyC (pm neg))] (.int .i64 1) [] := by
  have h205 := y205
  refine fnT hT4 hmx Tryz.func150 rfl rfl (ex := []) ?_
  conv => whnf
  refine ⟨[], _, h205, ?_⟩
  conv => whnf
  (refine ⟨by kernel_rfl, by kernel_rfl, ?_⟩; (conv => whnf))
  exact ⟨leA_refl rfl, leH_nil⟩
def sgR (d : Dy) : Int := if d.m.length = 0 then 0 else if d.neg = true then -1 else 1
theorem y149 (d : Dy) (hd : d = d0 ∨ d = d1 ∨ d = dm) : Fn 149 [] [.agg (dyC d)] (.int .i64 (sgR d)) [] := by
  obtain rfl | rfl | rfl := hd
  all_goals
    refine fnT hT4 hmx Tryz.func149 rfl rfl (ex := []) ?_
    conv => whnf
    exact ⟨leA_refl rfl, leH_nil⟩
def cmR (a b : Dy) : Int := if sgR a < sgR b then -1 else if sgR b < sgR a then 1 else 0
theorem y94 (a b : Dy) (ha : a = d0 ∨ a = d1 ∨ a = dm) (hb : b = d0 ∨ b = d1 ∨ b = dm) : Fn 94 [] [.agg (dyC a), .agg (dyC b)] (.int .i64 (cmR a b)) [] := by
  have h1 := y149 a ha
  have h2 := y149 b hb
  have h0 := y149 d0 (.inl rfl)
  have h150 : ∀ n, Fn 150 [] [.agg (dyC (pm n))] (.int .i64 1) [] := y150
  have h152 := y152
  have h151 := y151
  obtain rfl | rfl | rfl := ha <;> obtain rfl | rfl | rfl := hb
  all_goals
    refine fnT hT4 hmx Tryz.func94 rfl rfl (ex := []) ?_
    conv => whnf
    refine ⟨[], _, h1, ?_⟩
    conv => whnf
    refine ⟨[], _, h2, ?_⟩
    conv => whnf
    (refine ⟨by kernel_rfl, by kernel_rfl, ?_⟩; (conv => whnf))
    first
      | exact ⟨leA_refl rfl, leH_nil⟩
      | (refine ⟨[], _, h150 _, ?_⟩
         conv => whnf
         refine ⟨[], _, h150 _, ?_⟩
         conv => whnf
         (refine ⟨by kernel_rfl, by kernel_rfl, ?_⟩; (conv => whnf))
         refine ⟨[], _, h152 _, ?_⟩
         conv => whnf
         refine ⟨[], _, h151 _, ?_⟩
         conv => whnf
         refine ⟨[], _, h0, ?_⟩
         conv => whnf
         (refine ⟨by kernel_rfl, by kernel_rfl, ?_⟩; (conv => whnf))
         exact ⟨leA_refl rfl, leH_nil⟩)
end Go.Proofs.YtnijmbnkcmhfpaaGreatDoor

/-
  The reference's intervals (layer 5), at small values.
-/
namespace Go.Proofs.YtnijmbnkcmhfpaaGreatDoor
open Go Go.Sx
set_option maxRecDepth 100000
set_option maxHeartbeats 8000000
def D3 (d : Dy) : Prop := d = d0 ∨ d = d1 ∨ d = dm
theorem D30 : D3 d0 := .inl rfl
theorem D31 : D3 d1 := .inr (.inl rfl)
theorem D3m : D3 dm := .inr (.inr rfl)
theorem y148 (d : Dy) (hd : D3 d) : Fn 148 [] [.agg (dyC d)] (.bool true) [] := by
  have h205 := y205
  obtain rfl | rfl | rfl := hd
  · refine fnT hT4 hmx Tryz.func148 rfl rfl (ex := []) ?_
    conv => whnf
    exact ⟨leA_refl rfl, leH_nil⟩
  all_goals
    refine fnT hT4 hmx Tryz.func148 rfl rfl (ex := []) ?_
    conv => whnf
    refine ixh0 ?_
    conv => whnf
    refine ixh0 ?_
    conv => whnf
    refine ⟨[], _, h205, ?_⟩
    conv => whnf
    exact ⟨leA_refl rfl, leH_nil⟩
theorem y93 (a b : Dy) (ha : D3 a) (hb : D3 b) (hc : cmR a b ≤ 0) : Fn 93 [] [.agg (ivC ⟨a, b, false⟩)] (.bool true) [] := by
  have h1 := y148 a ha
  have h2 := y148 b hb
  have h3 := y94 a b ha hb
  generalize cmR a b = c at hc h3
  obtain ⟨a1, a2, a3⟩ := a
  obtain ⟨b1, b2, b3⟩ := b
  refine fnT hT4 hmx Tryz.func93 rfl rfl (ex := []) ?_
  conv => whnf
  refine ⟨[], _, h1, ?_⟩
  conv => whnf
  refine ⟨[], _, h2, ?_⟩
  conv => whnf
  refine ⟨[], _, h3, ?_⟩
  conv => whnf
  exact ⟨leA_bool (by simp [hc]), leH_nil⟩
theorem y53 (a b : Dy) (ha : D3 a) (hb : D3 b) (hc : cmR a b ≤ 0) : Fn 53 [] [.agg (ivC ⟨a, b, false⟩)] (.bool true) [] := by
  have h1 := y93 a b ha hb hc
  obtain ⟨a1, a2, a3⟩ := a
  obtain ⟨b1, b2, b3⟩ := b
  refine fnT hT4 hmx Tryz.func53 rfl rfl (ex := []) ?_
  conv => whnf
  refine ⟨[], _, h1, ?_⟩
  conv => whnf
  exact ⟨leA_refl rfl, leH_nil⟩
theorem y55 (a b : Dy) (ha : D3 a) (hb : D3 b) (hc : cmR a b ≤ 0) : Fn 55 [] [.agg (dyC a), .agg (dyC b)] (.agg (dyC a)) [] := by
  have h3 := y94 a b ha hb
  generalize cmR a b = c at hc h3
  obtain ⟨a1, a2, a3⟩ := a
  obtain ⟨b1, b2, b3⟩ := b
  refine fnT hT4 hmx Tryz.func55 rfl rfl (ex := []) ?_
  conv => whnf
  refine ⟨[], _, h3, ?_⟩
  conv => whnf
  refine brI (fun h => ?_) (fun h => by simp only [decide_eq_false_iff_not] at h; omega)
  conv => whnf
  exact ⟨leA_refl rfl, leH_nil⟩
theorem y56 (a b : Dy) (ha : D3 a) (hb : D3 b) (hc : cmR a b < 0) : Fn 56 [] [.agg (dyC a), .agg (dyC b)] (.agg (dyC b)) [] := by
  have h3 := y94 a b ha hb
  generalize cmR a b = c at hc h3
  obtain ⟨a1, a2, a3⟩ := a
  obtain ⟨b1, b2, b3⟩ := b
  refine fnT hT4 hmx Tryz.func56 rfl rfl (ex := []) ?_
  conv => whnf
  refine ⟨[], _, h3, ?_⟩
  conv => whnf
  refine brI (fun h => by simp only [decide_eq_true_eq] at h; omega) (fun h => ?_)
  conv => whnf
  exact ⟨leA_refl rfl, leH_nil⟩
theorem y27 (a b : Dy) (ha : D3 a) (hb : D3 b) (hc : cmR a b < 0) : Fn 27 [] [.agg (ivC ⟨a, a, false⟩), .agg (ivC ⟨b, b, false⟩)] (.agg (ivC ⟨a, b, false⟩)) [] := by
  have haa : cmR a a ≤ 0 := by obtain rfl | rfl | rfl := ha <;> decide +kernel
  have hbb : cmR b b ≤ 0 := by obtain rfl | rfl | rfl := hb <;> decide +kernel
  have h1 := y53 a a ha ha haa
  have h2 := y53 b b hb hb hbb
  have h3 := y55 a b ha hb (by omega)
  have h4 := y56 a b ha hb hc
  obtain ⟨a1, a2, a3⟩ := a
  obtain ⟨b1, b2, b3⟩ := b
  refine fnT hT4 hmx Tryz.func27 rfl rfl (ex := []) ?_
  conv => whnf
  refine ⟨[], _, h1, ?_⟩
  conv => whnf
  refine ⟨[], _, h2, ?_⟩
  conv => whnf
  refine ⟨[], _, h3, ?_⟩
  conv => whnf
  refine ⟨[], _, h4, ?_⟩
  conv => whnf
  (refine ⟨by kernel_rfl, by kernel_rfl, ?_⟩; (conv => whnf))
  exact ⟨leA_refl rfl, leH_nil⟩
theorem y29 (a : Dy) (ha : D3 a) : Fn 29 [] [.agg (dyC a), .agg (dyC a)] (.bool true) [] := by
  have h := y59 a.m (by obtain rfl | rfl | rfl := ha <;> decide)
  obtain rfl | rfl | rfl := ha
  all_goals
    refine fnT hT4 hmx Tryz.func29 rfl rfl (ex := []) ?_
    conv => whnf
    refine ⟨[], _, h, ?_⟩
    conv => whnf
    exact ⟨leA_refl rfl, leH_nil⟩
theorem y12 (a b : Dy) (ha : D3 a) (hb : D3 b) : Fn 12 [] [.agg (ivC ⟨a, b, false⟩), .agg (ivC ⟨a, b, false⟩)] (.bool true) [] := by
  have h1 := y29 a ha
  have h2 := y29 b hb
  obtain ⟨a1, a2, a3⟩ := a
  obtain ⟨b1, b2, b3⟩ := b
  refine fnT hT4 hmx Tryz.func12 rfl rfl (ex := []) ?_
  conv => whnf
  refine ⟨[], _, h1, ?_⟩
  conv => whnf
  refine ⟨[], _, h2, ?_⟩
  conv => whnf
  exact ⟨leA_refl rfl, leH_nil⟩
theorem y58 : Fn 58 [] [.agg (dyC d1)] (.agg (dyC dm)) [] := by
  refine fnT hT4 hmx Tryz.func58 rfl rfl (ex := []) ?_
  conv => whnf
  exact ⟨leA_refl rfl, leH_nil⟩
end Go.Proofs.YtnijmbnkcmhfpaaGreatDoor

/-
  The reference's Ends of 1 / 1, Enclose of small integers; law 17's helpers.
-/
namespace Go.Proofs.YtnijmbnkcmhfpaaGreatDoor
open Go Go.Sx
set_option maxRecDepth 100000
set_option maxHeartbeats 8000000
abbrev p2 (s : Nat) : Int := ((2 ^ s : Nat) : Int)
theorem bit32 : ∀ s k : Fin 32, IntKind.u32.wrap ((BitVec.ofInt IntKind.u32.bits ((p2 s.val).fdiv (2 ^ min ((k.val : Nat) : Int).toNat IntKind.u32.bits)) &&& BitVec.ofInt IntKind.u32.bits 1).toNat : Int) = if k.val = s.val then 1 else 0 := by decide +kernel
theorem y97n : Fn 97 [] [.sl .u32 []] (.int .i64 0) [] := by
  refine fnT hT4 hmx Tryz.func97 rfl rfl (ex := []) ?_
  conv => whnf
  refine ⟨Unit, fun _ => True, fun _ => [(3, .int .i64 (-1))], fun _ => [], fun _ => 0, (), trivial, ?_, fun _ _ => ?_⟩
  · ((conv => whnf); refine And.intro ?_ ?_; repeat' first | refine leL_cons ?_ ?_ | exact leA_any | exact leA_refl rfl | exact leL_nil | refine leH_cons ?_ ?_ | exact leH_nil | exact leB_free | exact leB_dead | refine leB_cells ?_ | exact leB_map rfl | exact leB_gst rfl | exact leA_nil rfl | refine leA_agg ?_ | refine leA_tup ?_ | fail)
  (refine ⟨by kernel_rfl, ?_⟩; (conv => whnf))
  exact ⟨leA_refl rfl, leH_nil⟩
theorem y97 (s : Nat) (hs : s < 32) : Fn 97 [] [.sl .u32 [p2 s]] (.int .i64 (s + 1)) [] := by
  refine fnT hT4 hmx Tryz.func97 rfl rfl (ex := []) ?_
  conv => whnf
  refine ⟨Unit, fun _ => True, fun _ => [(3, .int .i64 0)], fun _ => [], fun _ => 0, (), trivial, ?_, fun _ _ => ?_⟩
  · ((conv => whnf); refine And.intro ?_ ?_; repeat' first | refine leL_cons ?_ ?_ | exact leA_any | exact leA_refl rfl | exact leL_nil | refine leH_cons ?_ ?_ | exact leH_nil | exact leB_free | exact leB_dead | refine leB_cells ?_ | exact leB_map rfl | exact leB_gst rfl | exact leA_nil rfl | refine leA_agg ?_ | refine leA_tup ?_ | fail)
  (refine ⟨by kernel_rfl, ?_⟩; (conv => whnf))
  refine ⟨Nat, fun j => s < j ∧ j ≤ 32, fun j => [(4, .int .i64 (j - 1))], fun _ => [], fun j => j, 32, ⟨hs, Nat.le_refl _⟩, ?_, fun j hj => ?_⟩
  · ((conv => whnf); refine And.intro ?_ ?_; repeat' first | refine leL_cons ?_ ?_ | exact leA_any | exact leA_refl rfl | exact leL_nil | refine leH_cons ?_ ?_ | exact leH_nil | exact leB_free | exact leB_dead | refine leB_cells ?_ | exact leB_map rfl | exact leB_gst rfl | exact leA_nil rfl | refine leA_agg ?_ | refine leA_tup ?_ | fail)
  obtain ⟨hj1, hj2⟩ := hj
  obtain ⟨k, rfl⟩ : ∃ k, j = k + 1 := ⟨j - 1, by omega⟩
  (refine ⟨by kernel_rfl, ?_⟩; (conv => whnf))
  refine brI (fun h1 => ?_) (fun h1 => by simp only [decide_eq_false_iff_not] at h1; omega)
  conv => whnf
  refine ixh0 ?_
  conv => whnf
  refine ⟨by omega, ?_⟩
  conv => whnf
  have hk : (((k + 1 : Nat) : Int) - 1) = (k : Int) := by omega
  rw [hk, bit32 ⟨s, hs⟩ ⟨k, by omega⟩]
  by_cases h : k = s
  · subst h
    rw [if_pos rfl]
    conv => whnf
    exact ⟨leA_int (by
      show IntKind.i64.wrap (IntKind.i64.wrap (0 + (k : Int)) + 1) = k + 1
      rw [wI (x := 0 + (k : Int)) (by omega), wI (by omega)]; omega), leH_nil⟩
  · rw [if_neg h]
    conv => whnf
    refine ⟨k, ⟨by omega, by omega⟩, by show k < k + 1; omega, ?_⟩
    ((conv => whnf); refine And.intro ?_ ?_; repeat' first | refine leL_cons ?_ ?_ | exact leA_any | exact leA_refl rfl | exact leL_nil | refine leH_cons ?_ ?_ | exact leH_nil | exact leB_free | exact leB_dead | refine leB_cells ?_ | exact leB_map rfl | exact leB_gst rfl | exact leA_nil rfl | refine leA_agg ?_ | refine leA_tup ?_ | fail)
    exact leA_int (by rw [wI (by omega)])
theorem y98 (s : Nat) (hs : s < 32) (j : Nat) (hj : j ≤ 1000) : Fn 98 [] [.sl .u32 [p2 s], .int .i64 j] (.int .i64 (if j = s then 1 else 0)) [] := by
  refine fnT hT4 hmx Tryz.func98 rfl rfl (ex := []) ?_
  conv => whnf
  refine brI (fun h1 => ?_) (fun h1 => ?_)
  · have h1 : 32 ≤ (j : Int) := of_decide_eq_true h1
    conv => whnf
    exact ⟨leA_int (by rw [if_neg (by omega)]), leH_nil⟩
  · have h1 : ¬ 32 ≤ (j : Int) := of_decide_eq_false h1
    conv => whnf
    refine ⟨by decide, ?_⟩
    conv => whnf
    have hq : IntKind.i64.wrap ((j : Int).tdiv 32) = 0 := by
      rw [show (j : Int).tdiv 32 = ((j / 32 : Nat) : Int) from Int.ofNat_tdiv j 32, Nat.div_eq_of_lt (by omega)]; rfl
    have hr : (j : Int).tmod 32 = j := by
      rw [show (j : Int).tmod 32 = ((j % 32 : Nat) : Int) from Int.ofNat_tmod j 32, Nat.mod_eq_of_lt (by omega)]
    rw [hq]
    refine ixh0 ?_
    conv => whnf
    refine ⟨by decide, ?_⟩
    conv => whnf
    rw [hr]
    refine ⟨by omega, ?_⟩
    conv => whnf
    refine ⟨leA_int ?_, leH_nil⟩
    rw [bit32 ⟨s, hs⟩ ⟨j, by omega⟩]
    by_cases h : j = s
    · subst h; simp only [if_pos]; rfl
    · rw [if_neg h]; rfl
theorem fd31 : ∀ s : Fin 31, (p2 s.val).fdiv (2 ^ min (Int.toNat 31) IntKind.u32.bits) = 0 := by decide +kernel
theorem or31 : ∀ s : Fin 31, IntKind.u32.wrap ((BitVec.ofInt IntKind.u32.bits (IntKind.u32.wrap (p2 s.val * 2 ^ min (Int.toNat 1) IntKind.u32.bits)) ||| BitVec.ofInt IntKind.u32.bits 0).toNat : Int) = p2 (s.val + 1) := by decide +kernel
theorem y95n : Fn 95 [] [.sl .u32 [], .int .u64 0] (.sl .u32 []) [] := by
  refine fnT hT4 hmx Tryz.func95 rfl rfl (ex := []) ?_
  conv => whnf
  refine ⟨Unit, fun _ => True, fun _ => [(7, .int .i64 0), (5, .own 25), (6, .int .u32 0)], fun _ => [(25, .buf 113 .u32 [])], fun _ => 0, (), trivial, ?_, fun _ _ => ?_⟩
  · ((conv => whnf); refine And.intro ?_ ?_; repeat' first | refine leL_cons ?_ ?_ | exact leA_any | exact leA_refl rfl | exact leL_nil | refine leH_cons ?_ ?_ | exact leH_nil | exact leB_free | exact leB_dead | refine leB_cells ?_ | exact leB_map rfl | exact leB_buf rfl | exact leB_gst rfl | exact leA_nil rfl | refine leA_agg ?_ | refine leA_tup ?_ | fail)
    all_goals first | exact trivial | exact ⟨rfl, rfl⟩
  (refine ⟨by kernel_rfl, ?_⟩; (conv => whnf))
  exact ⟨leA_refl rfl, leH_nil⟩
theorem y95 (s : Nat) (hs : s < 31) : Fn 95 [] [.sl .u32 [p2 s], .int .u64 0] (.sl .u32 [p2 (s + 1)]) [] := by
  refine fnT hT4 hmx Tryz.func95 rfl rfl (ex := []) ?_
  conv => whnf
  refine ⟨Nat, fun i => i ≤ 1, fun i => [(7, .int .i64 i), (5, .own 25), (6, .int .u32 0)], fun i => [(25, .buf 113 .u32 (if i = 0 then [] else [p2 (s + 1)]))], fun i => 1 - i, 0, by simp, ?_, fun i hi => ?_⟩
  · ((conv => whnf); refine And.intro ?_ ?_; repeat' first | refine leL_cons ?_ ?_ | exact leA_any | exact leA_refl rfl | exact leL_nil | refine leH_cons ?_ ?_ | exact leH_nil | exact leB_free | exact leB_dead | refine leB_cells ?_ | exact leB_map rfl | exact leB_buf rfl | exact leB_gst rfl | exact leA_nil rfl | refine leA_agg ?_ | refine leA_tup ?_ | fail)
    all_goals first | exact trivial | exact ⟨rfl, rfl⟩
  obtain rfl | rfl : i = 0 ∨ i = 1 := by omega
  · (refine ⟨by kernel_rfl, ?_⟩; (conv => whnf))
    refine ixh0 ?_
    conv => whnf
    refine ⟨by decide, ?_⟩
    conv => whnf
    refine ⟨by show (0 + 1) * 4 ≤ 140737488355328; decide, ?_⟩
    conv => whnf
    refine ixh0 ?_
    conv => whnf
    refine ⟨by decide, ?_⟩
    conv => whnf
    refine ⟨1, by decide, by decide, ?_⟩
    ((conv => whnf); refine And.intro ?_ ?_; repeat' first | refine leL_cons ?_ ?_ | exact leA_any | exact leA_refl rfl | exact leL_nil | refine leH_cons ?_ ?_ | exact leH_nil | exact leB_free | exact leB_dead | refine leB_cells ?_ | exact leB_map rfl | exact leB_buf rfl | exact leB_gst rfl | exact leA_nil rfl | refine leA_agg ?_ | refine leA_tup ?_ | fail)
    · exact leA_int (fd31 ⟨s, hs⟩)
    · exact leB_buf (congrArg (fun x => [x]) (or31 ⟨s, hs⟩))
  · (refine ⟨by kernel_rfl, ?_⟩; (conv => whnf))
    exact ⟨leA_refl rfl, leH_nil⟩
theorem y96 : Fn 96 [] [.sl .u32 []] (.sl .u32 [1]) [] := by
  refine fnT hT4 hmx Tryz.func96 rfl rfl (ex := []) ?_
  conv => whnf
  exact ⟨leA_refl rfl, leH_nil⟩
/-- The bits of 2^23, put together: one bit at a time. -/
theorem or23 : ∀ k : Fin 24, IntKind.u32.wrap ((BitVec.ofInt IntKind.u32.bits 0 ||| BitVec.ofInt IntKind.u32.bits (IntKind.u32.wrap (IntKind.u32.wrap (if k.val = 23 then 1 else 0) * 2 ^ min ((k.val : Nat) : Int).toNat IntKind.u32.bits))).toNat : Int) = if k.val = 23 then 8388608 else 0 := by decide +kernel
theorem or0 : ∀ k : Fin 32, IntKind.u32.wrap ((BitVec.ofInt IntKind.u32.bits (if k.val = 0 then 0 else 1) ||| BitVec.ofInt IntKind.u32.bits (IntKind.u32.wrap (IntKind.u32.wrap (if 23 + k.val = 23 then 1 else 0) * 2 ^ min ((k.val : Nat) : Int).toNat IntKind.u32.bits))).toNat : Int) = 1 := by decide +kernel
theorem y99 : Fn 99 [] [.bool false, .sl .u32 [p2 23], .int .i64 (-23)] (.agg (dyC d1)) [] := by
  have h97 := y97 23 (by decide)
  have h98 := y98 23 (by decide)
  refine fnT hT4 hmx Tryz.func99 rfl rfl (ex := []) ?_
  conv => whnf
  refine ⟨[], _, h97, ?_⟩
  conv => whnf
  refine ⟨Nat, fun j => j ≤ 23, fun j => [(8, .int .i64 j)], fun _ => [], fun j => 23 - j, 0, by simp, ?_, fun j hj => ?_⟩
  · ((conv => whnf); refine And.intro ?_ ?_; repeat' first | refine leL_cons ?_ ?_ | exact leA_any | exact leA_refl rfl | exact leL_nil | refine leH_cons ?_ ?_ | exact leH_nil | exact leB_free | exact leB_dead | refine leB_cells ?_ | exact leB_map rfl | exact leB_gst rfl | exact leA_nil rfl | refine leA_agg ?_ | refine leA_tup ?_ | fail)
  (refine ⟨by kernel_rfl, ?_⟩; (conv => whnf))
  refine ⟨[], _, h98 j (by omega), ?_⟩
  by_cases h : j = 23
  rotate_left
  · rw [if_neg h]
    conv => whnf
    refine ⟨j + 1, by show j + 1 ≤ 23; omega, by show 23 - (j + 1) < 23 - j; omega, ?_⟩
    ((conv => whnf); refine And.intro ?_ ?_; repeat' first | refine leL_cons ?_ ?_ | exact leA_any | exact leA_refl rfl | exact leL_nil | refine leH_cons ?_ ?_ | exact leH_nil | exact leB_free | exact leB_dead | refine leB_cells ?_ | exact leB_map rfl | exact leB_gst rfl | exact leA_nil rfl | refine leA_agg ?_ | refine leA_tup ?_ | fail)
    exact leA_int (by rw [wI (by omega)]; omega)
  subst h
  rw [if_pos rfl]
  conv => whnf
  refine ⟨Nat, fun i => i ≤ 1, fun i => [(10, .int .i64 (23 + 32 * i))], fun i => [(9, .cells (if i = 0 then [.bool false, .nilsl, .int .i64 0] else [.bool false, .own 53, .int .i64 0])), (53, if i = 0 then .free else .buf 113 .u32 [1])], fun i => 1 - i, 0, by simp, ?_, fun i hi => ?_⟩
  · ((conv => whnf); refine And.intro ?_ ?_; repeat' first | refine leL_cons ?_ ?_ | exact leA_any | exact leA_refl rfl | exact leL_nil | refine leH_cons ?_ ?_ | exact leH_nil | exact leB_free | exact leB_dead | refine leB_cells ?_ | exact leB_map rfl | exact leB_buf rfl | exact leB_gst rfl | exact leA_nil rfl | refine leA_agg ?_ | refine leA_tup ?_ | fail)
  obtain rfl | rfl : i = 0 ∨ i = 1 := by omega
  · (refine ⟨by kernel_rfl, ?_⟩; (conv => whnf))
    refine ⟨Nat, fun k => k ≤ 32, fun k => [(12, .int .i64 k), (11, .int .u32 (if k = 0 then 0 else 1))], fun _ => [], fun k => 32 - k, 0, by simp, ?_, fun k hk => ?_⟩
    · ((conv => whnf); refine And.intro ?_ ?_; repeat' first | refine leL_cons ?_ ?_ | exact leA_any | exact leA_refl rfl | exact leL_nil | refine leH_cons ?_ ?_ | exact leH_nil | exact leB_free | exact leB_dead | refine leB_cells ?_ | exact leB_map rfl | exact leB_buf rfl | exact leB_gst rfl | exact leA_nil rfl | refine leA_agg ?_ | refine leA_tup ?_ | fail)
    (refine ⟨by kernel_rfl, ?_⟩; (conv => whnf))
    refine brI (fun h1 => ?_) (fun h1 => ?_)
    · have h1 : k < 32 := by simp only [decide_eq_true_eq] at h1; omega
      have hw : IntKind.i64.wrap (23 + 32 * ((0 : Nat) : Int) + (k : Int)) = ((23 + k : Nat) : Int) := by rw [wI (by omega)]; omega
      conv => whnf
      rw [hw]
      refine ⟨[], _, h98 (23 + k) (by omega), ?_⟩
      conv => whnf
      refine ⟨by omega, ?_⟩
      conv => whnf
      refine ⟨k + 1, by show k + 1 ≤ 32; omega, by show 32 - (k + 1) < 32 - k; omega, ?_⟩
      ((conv => whnf); refine And.intro ?_ ?_; repeat' first | refine leL_cons ?_ ?_ | exact leA_any | exact leA_refl rfl | exact leL_nil | refine leH_cons ?_ ?_ | exact leH_nil | exact leB_free | exact leB_dead | refine leB_cells ?_ | exact leB_map rfl | exact leB_buf rfl | exact leB_gst rfl | exact leA_nil rfl | refine leA_agg ?_ | refine leA_tup ?_ | fail)
      · exact leA_int ((or0 ⟨k, h1⟩).trans (by simp))
      · exact leA_int (by rw [wI (by omega)]; omega)
    · have h1 : ¬ k < 32 := by simp only [decide_eq_false_iff_not] at h1; omega
      have hk : k ≤ 32 := hk
      obtain rfl : k = 32 := by omega
      conv => whnf
      refine ⟨by decide, ?_⟩
      conv => whnf
      refine ⟨1, by decide, by decide, ?_⟩
      ((conv => whnf); refine And.intro ?_ ?_; repeat' first | refine leL_cons ?_ ?_ | exact leA_any | exact leA_refl rfl | exact leL_nil | refine leH_cons ?_ ?_ | exact leH_nil | exact leB_free | exact leB_dead | refine leB_cells ?_ | exact leB_map rfl | exact leB_buf rfl | exact leB_gst rfl | exact leA_nil rfl | refine leA_agg ?_ | refine leA_tup ?_ | fail)
  · (refine ⟨by kernel_rfl, ?_⟩; (conv => whnf))
    exact ⟨leA_refl rfl, leH_nil⟩
theorem bit64 : ∀ n : Fin 64, IntKind.u64.wrap ((BitVec.ofInt IntKind.u64.bits ((1 : Int).fdiv (2 ^ min ((n.val : Nat) : Int).toNat IntKind.u64.bits)) &&& BitVec.ofInt IntKind.u64.bits 1).toNat : Int) = if n.val = 0 then 1 else 0 := by decide +kernel
theorem y57 : Fn 57 [] [.int .u64 1, .int .u64 1, .int .i64 24] (.tup [.agg (dyC d1), .agg (dyC d1)]) [] := by
  have h98 := y98 23 (by decide)
  refine fnT hT4 hmx Tryz.func57 rfl rfl (ex := []) ?_
  conv => whnf
  refine ⟨Nat × AV × Blk, fun x => (x.1 = 64 ∧ x.2 = (.own 21, .buf 113 .u32 [])) ∨ (1 ≤ x.1 ∧ x.1 < 64 ∧ x.2 = (.sl .u32 [], .dead)) ∨ (x.1 = 0 ∧ x.2 = (.sl .u32 [p2 0], .dead)), fun x => [(11, .int .i64 (x.1 - 1)), (8, x.2.1), (9, .int .u64 0), (21, .any)], fun x => [(21, x.2.2)], fun x => x.1, (64, .own 21, .buf 113 .u32 []), .inl ⟨rfl, rfl⟩, ?_, fun x hx => ?_⟩
  · ((conv => whnf); refine And.intro ?_ ?_; repeat' first | refine leL_cons ?_ ?_ | exact leA_any | exact leA_refl rfl | exact leL_nil | refine leH_cons ?_ ?_ | exact leH_nil | exact leB_free | exact leB_dead | refine leB_cells ?_ | exact leB_map rfl | exact leB_buf rfl | exact leB_gst rfl | exact leA_nil rfl | refine leA_agg ?_ | refine leA_tup ?_ | fail)
  obtain ⟨r, m, b⟩ := x
  simp only at hx
  obtain ⟨rfl, hx⟩ | ⟨hr1, hr2, hx⟩ | ⟨rfl, hx⟩ := hx
  · obtain ⟨rfl, rfl⟩ := Prod.mk.inj hx
    (refine ⟨by kernel_rfl, ?_⟩; (conv => whnf))
    refine ⟨by decide, ?_⟩
    conv => whnf
    refine ⟨by decide, ?_⟩
    conv => whnf
    refine ⟨by decide, ?_⟩
    conv => whnf
    refine ⟨by decide, ?_⟩
    conv => whnf
    refine ⟨[], _, y95n, ?_⟩
    conv => whnf
    refine ⟨(63, .sl .u32 [], .dead), .inr (.inl ⟨by decide, by decide, rfl⟩), by decide, ?_⟩
    ((conv => whnf); refine And.intro ?_ ?_; repeat' first | refine leL_cons ?_ ?_ | exact leA_any | exact leA_refl rfl | exact leL_nil | refine leH_cons ?_ ?_ | exact leH_nil | exact leB_free | exact leB_dead | refine leB_cells ?_ | exact leB_map rfl | exact leB_buf rfl | exact leB_gst rfl | exact leA_nil rfl | refine leA_agg ?_ | refine leA_tup ?_ | fail)
  · obtain ⟨rfl, rfl⟩ := Prod.mk.inj hx
    obtain ⟨k, rfl⟩ : ∃ k, r = k + 1 := ⟨r - 1, by omega⟩
    have hn : ((k + 1 : Nat) : Int) - 1 = (k : Int) := by omega
    (refine ⟨by kernel_rfl, ?_⟩; (conv => whnf))
    refine brI (fun h1 => ?_) (fun h1 => by simp only [decide_eq_false_iff_not] at h1; omega)
    conv => whnf
    rw [hn]
    refine ⟨by omega, ?_⟩
    conv => whnf
    rw [bit64 ⟨k, by omega⟩]
    by_cases hk : k = 0
    · subst hk
      rw [if_pos rfl]
      refine ⟨by decide, ?_⟩
      conv => whnf
      refine ⟨by decide, ?_⟩
      conv => whnf
      refine ⟨by decide, ?_⟩
      conv => whnf
      refine ⟨[], _, y95n, ?_⟩
      conv => whnf
      refine ⟨[], _, y96, ?_⟩
      conv => whnf
      refine ⟨(0, .sl .u32 [p2 0], .dead), .inr (.inr ⟨rfl, rfl⟩), by show 0 < 0 + 1; omega, ?_⟩
      ((conv => whnf); refine And.intro ?_ ?_; repeat' first | refine leL_cons ?_ ?_ | exact leA_any | exact leA_refl rfl | exact leL_nil | refine leH_cons ?_ ?_ | exact leH_nil | exact leB_free | exact leB_dead | refine leB_cells ?_ | exact leB_map rfl | exact leB_buf rfl | exact leB_gst rfl | exact leA_nil rfl | refine leA_agg ?_ | refine leA_tup ?_ | fail)
    · rw [if_neg hk]
      refine ⟨by decide, ?_⟩
      conv => whnf
      refine ⟨by decide, ?_⟩
      conv => whnf
      refine ⟨by decide, ?_⟩
      conv => whnf
      refine ⟨[], _, y95n, ?_⟩
      conv => whnf
      refine ⟨(k, .sl .u32 [], .dead), .inr (.inl ⟨by show 1 ≤ k; omega, by show k < 64; omega, rfl⟩), by show k < k + 1; omega, ?_⟩
      ((conv => whnf); refine And.intro ?_ ?_; repeat' first | refine leL_cons ?_ ?_ | exact leA_any | exact leA_refl rfl | exact leL_nil | refine leH_cons ?_ ?_ | exact leH_nil | exact leB_free | exact leB_dead | refine leB_cells ?_ | exact leB_map rfl | exact leB_buf rfl | exact leB_gst rfl | exact leA_nil rfl | refine leA_agg ?_ | refine leA_tup ?_ | fail)
      exact leA_int (by show IntKind.i64.wrap ((k : Int) - 1) = (k : Int) - 1; rw [wI (by omega)])
  · obtain ⟨rfl, rfl⟩ := Prod.mk.inj hx
    (refine ⟨by kernel_rfl, ?_⟩; (conv => whnf))
    refine ⟨Nat, fun k => k ≤ 23, fun k => [(8, .sl .u32 [p2 k]), (9, .int .u64 0), (10, .int .i64 (-k))], fun _ => [], fun k => 23 - k, 0, by simp, ?_, fun k hk => ?_⟩
    · ((conv => whnf); refine And.intro ?_ ?_; repeat' first | refine leL_cons ?_ ?_ | exact leA_any | exact leA_refl rfl | exact leL_nil | refine leH_cons ?_ ?_ | exact leH_nil | exact leB_free | exact leB_dead | refine leB_cells ?_ | exact leB_map rfl | exact leB_buf rfl | exact leB_gst rfl | exact leA_nil rfl | refine leA_agg ?_ | refine leA_tup ?_ | fail)
    have h97 := y97 k (by omega)
    (refine ⟨by kernel_rfl, ?_⟩; (conv => whnf))
    refine ⟨[], _, h97, ?_⟩
    conv => whnf
    refine brI (fun h1 => ?_) (fun h1 => ?_)
    · have h1 : k < 23 := by simp only [decide_eq_true_eq] at h1; omega
      conv => whnf
      refine ⟨[], _, y95 k (by omega), ?_⟩
      conv => whnf
      refine ⟨k + 1, by show k + 1 ≤ 23; omega, by show 23 - (k + 1) < 23 - k; omega, ?_⟩
      ((conv => whnf); refine And.intro ?_ ?_; repeat' first | refine leL_cons ?_ ?_ | exact leA_any | exact leA_refl rfl | exact leL_nil | refine leH_cons ?_ ?_ | exact leH_nil | exact leB_free | exact leB_dead | refine leB_cells ?_ | exact leB_map rfl | exact leB_buf rfl | exact leB_gst rfl | exact leA_nil rfl | refine leA_agg ?_ | refine leA_tup ?_ | fail)
      exact leA_int (by rw [wI (by omega)]; omega)
    · have h1 : ¬ k < 23 := by simp only [decide_eq_false_iff_not] at h1; omega
      obtain rfl : k = 23 := by omega
      conv => whnf
      refine ⟨[], _, h97, ?_⟩
      conv => whnf
      refine ⟨Nat, fun i => i ≤ 1, fun i => [(16, .int .i64 (32 * i)), (15, if i = 0 then .nilsl else .own 102)], fun i => [(102, if i = 0 then .free else .buf 113 .u32 [8388608])], fun i => 1 - i, 0, by simp, ?_, fun i hi => ?_⟩
      · ((conv => whnf); refine And.intro ?_ ?_; repeat' first | refine leL_cons ?_ ?_ | exact leA_any | exact leA_refl rfl | exact leL_nil | refine leH_cons ?_ ?_ | exact leH_nil | exact leB_free | exact leB_dead | refine leB_cells ?_ | exact leB_map rfl | exact leB_buf rfl | exact leB_gst rfl | exact leA_nil rfl | refine leA_agg ?_ | refine leA_tup ?_ | fail)
      obtain rfl | rfl : i = 0 ∨ i = 1 := by omega
      · (refine ⟨by kernel_rfl, ?_⟩; (conv => whnf))
        refine ⟨Nat, fun k => k ≤ 24, fun k => [(18, .int .i64 k), (17, .int .u32 (if k = 24 then 8388608 else 0))], fun _ => [], fun k => 24 - k, 0, by simp, ?_, fun k hk => ?_⟩
        · ((conv => whnf); refine And.intro ?_ ?_; repeat' first | refine leL_cons ?_ ?_ | exact leA_any | exact leA_refl rfl | exact leL_nil | refine leH_cons ?_ ?_ | exact leH_nil | exact leB_free | exact leB_dead | refine leB_cells ?_ | exact leB_map rfl | exact leB_buf rfl | exact leB_gst rfl | exact leA_nil rfl | refine leA_agg ?_ | refine leA_tup ?_ | fail)
        have hk : k ≤ 24 := hk
        (refine ⟨by kernel_rfl, ?_⟩; (conv => whnf))
        refine brI (fun _ => ?_) (fun h1 => by simp only [decide_eq_false_iff_not] at h1; omega)
        conv => whnf
        refine brI (fun h2 => ?_) (fun h2 => ?_)
        · have h2 : IntKind.i64.wrap (32 * ((0 : Nat) : Int) + (k : Int)) < 24 := of_decide_eq_true h2
          rw [wI (by omega)] at h2
          have hw : IntKind.i64.wrap (IntKind.i64.wrap (IntKind.i64.wrap (((23 : Nat) : Int) + 1 - 24) + 32 * ((0 : Nat) : Int)) + (k : Int)) = (k : Int) := by
            rw [show IntKind.i64.wrap (IntKind.i64.wrap (((23 : Nat) : Int) + 1 - 24) + 32 * ((0 : Nat) : Int)) = 0 from rfl, wI (by omega)]; omega
          conv => whnf
          rw [hw]
          refine ⟨[], _, h98 k (by omega), ?_⟩
          conv => whnf
          refine ⟨by omega, ?_⟩
          conv => whnf
          refine ⟨k + 1, by show k + 1 ≤ 24; omega, by show 24 - (k + 1) < 24 - k; omega, ?_⟩
          ((conv => whnf); refine And.intro ?_ ?_; repeat' first | refine leL_cons ?_ ?_ | exact leA_any | exact leA_refl rfl | exact leL_nil | refine leH_cons ?_ ?_ | exact leH_nil | exact leB_free | exact leB_dead | refine leB_cells ?_ | exact leB_map rfl | exact leB_buf rfl | exact leB_gst rfl | exact leA_nil rfl | refine leA_agg ?_ | refine leA_tup ?_ | fail)
          · refine leA_int ?_
            rw [if_neg (show ¬ k = 24 by omega)]
            refine (or23 ⟨k, by omega⟩).trans ?_
            by_cases h : k = 23
            · subst h; rfl
            · rw [if_neg h, if_neg (by omega)]
          · exact leA_int (by rw [wI (by omega)]; omega)
        · have h2 : ¬ IntKind.i64.wrap (32 * ((0 : Nat) : Int) + (k : Int)) < 24 := of_decide_eq_false h2
          rw [wI (by omega)] at h2
          obtain rfl : k = 24 := by omega
          conv => whnf
          refine ⟨by decide, ?_⟩
          conv => whnf
          refine ⟨1, by decide, by decide, ?_⟩
          ((conv => whnf); refine And.intro ?_ ?_; repeat' first | refine leL_cons ?_ ?_ | exact leA_any | exact leA_refl rfl | exact leL_nil | refine leH_cons ?_ ?_ | exact leH_nil | exact leB_free | exact leB_dead | refine leB_cells ?_ | exact leB_map rfl | exact leB_buf rfl | exact leB_gst rfl | exact leA_nil rfl | refine leA_agg ?_ | refine leA_tup ?_ | fail)
      · (refine ⟨by kernel_rfl, ?_⟩; (conv => whnf))
        refine ⟨Unit, fun _ => True, fun _ => [(19, .int .i64 0), (14, .bool true)], fun _ => [], fun _ => 0, (), trivial, ?_, fun _ _ => ?_⟩
        · ((conv => whnf); refine And.intro ?_ ?_; repeat' first | refine leL_cons ?_ ?_ | exact leA_any | exact leA_refl rfl | exact leL_nil | refine leH_cons ?_ ?_ | exact leH_nil | exact leB_free | exact leB_dead | refine leB_cells ?_ | exact leB_map rfl | exact leB_buf rfl | exact leB_gst rfl | exact leA_nil rfl | refine leA_agg ?_ | refine leA_tup ?_ | fail)
        (refine ⟨by kernel_rfl, ?_⟩; (conv => whnf))
        refine ⟨[], _, y99, ?_⟩
        conv => whnf
        (refine ⟨by kernel_rfl, by kernel_rfl, ?_⟩; (conv => whnf))
        exact ⟨leA_refl rfl, leH_nil⟩
theorem leZ {h h' : Hp} : leA h h' (.agg [.bool false, .nilsl, .int .i64 0, .bool false, .nilsl, .int .i64 0, .bool false]) (.agg (ivC ⟨d0, d0, false⟩)) :=
  leA_agg (leL_cons (leA_refl rfl) (leL_cons (leA_nil rfl) (leL_cons (leA_refl rfl) (leL_cons (leA_refl rfl) (leL_cons (leA_nil rfl) (leL_cons (leA_refl rfl) (leL_cons (leA_refl rfl) leL_nil)))))))
theorem y28z : Fn 28 [] [.agg [.int .i64 0, .int .i64 1], .int .i64 24] (.agg (ivC ⟨d0, d0, false⟩)) [] := by
  have h21 := f131 0 1
  rw [show rOk ⟨0, 1⟩ = true by decide +kernel] at h21
  refine fnT hT4 hmx Tryz.func28 rfl rfl (ex := []) ?_
  conv => whnf
  refine ⟨[], _, h21, ?_⟩
  conv => whnf
  exact ⟨leZ, leH_nil⟩
theorem y28p : Fn 28 [] [.agg [.int .i64 1, .int .i64 1], .int .i64 24] (.agg (ivC ⟨d1, d1, false⟩)) [] := by
  have h21 := f131 1 1
  rw [show rOk ⟨1, 1⟩ = true by decide +kernel] at h21
  refine fnT hT4 hmx Tryz.func28 rfl rfl (ex := []) ?_
  conv => whnf
  refine ⟨[], _, h21, ?_⟩
  conv => whnf
  refine ⟨[], _, f156 1 (by decide), ?_⟩
  conv => whnf
  refine ⟨[], _, y57, ?_⟩
  conv => whnf
  (refine ⟨by kernel_rfl, by kernel_rfl, ?_⟩; (conv => whnf))
  exact ⟨leA_refl rfl, leH_nil⟩
theorem y28m : Fn 28 [] [.agg [.int .i64 (-1), .int .i64 1], .int .i64 24] (.agg (ivC ⟨dm, dm, false⟩)) [] := by
  have h21 := f131 (-1) 1
  rw [show rOk ⟨-1, 1⟩ = true by decide +kernel] at h21
  refine fnT hT4 hmx Tryz.func28 rfl rfl (ex := []) ?_
  conv => whnf
  refine ⟨[], _, h21, ?_⟩
  conv => whnf
  refine ⟨[], _, f156 (-1) (by decide), ?_⟩
  conv => whnf
  refine ⟨[], _, y57, ?_⟩
  conv => whnf
  (refine ⟨by kernel_rfl, by kernel_rfl, ?_⟩; (conv => whnf))
  refine ⟨[], _, y58, ?_⟩
  conv => whnf
  refine ⟨[], _, y58, ?_⟩
  conv => whnf
  (refine ⟨by kernel_rfl, by kernel_rfl, ?_⟩; (conv => whnf))
  exact ⟨leA_refl rfl, leH_nil⟩
theorem y10 (n : Int) (a : Dy) (ha : D3 a) (hc : cmR a d1 < 0) (h : Fn 28 [] [.agg [.int .i64 n, .int .i64 1], .int .i64 24] (.agg (ivC ⟨a, a, false⟩)) []) : Fn 10 [] [.int .i64 n, .int .i64 1] (.agg (ivC ⟨a, d1, false⟩)) [] := by
  have h27 := y27 a d1 ha D31 hc
  obtain ⟨a1, a2, a3⟩ := a
  refine fnT hT4 hmx Tryz.func10 rfl rfl (ex := []) ?_
  conv => whnf
  refine ⟨[], _, h, ?_⟩
  conv => whnf
  refine ⟨[], _, y28p, ?_⟩
  conv => whnf
  refine ⟨[], _, h27, ?_⟩
  conv => whnf
  exact ⟨leA_refl rfl, leH_nil⟩
theorem y10z : Fn 10 [] [.int .i64 0, .int .i64 1] (.agg (ivC i01)) [] := y10 0 d0 D30 (by decide +kernel) y28z
theorem y10m : Fn 10 [] [.int .i64 (-1), .int .i64 1] (.agg (ivC im1)) [] := y10 (-1) dm D3m (by decide +kernel) y28m
theorem y7 (s : Bytes) : Fn 7 [] [.str s] (.agg (exC (varE s))) [] := by
  refine fnT hT4 hmx Tryz.func7 rfl rfl (ex := []) ?_
  conv => whnf
  exact ⟨leA_agg (leL_cons (leA_refl rfl) (leL_cons (leA_refl rfl) (leL_cons (leA_refl rfl) (leL_cons (leA_refl rfl) (leL_cons (leA_refl rfl) (leL_cons (leA_nil rfl) leL_nil)))))), leH_nil⟩
theorem y9 (k : Int) (l : List Ex) : Fn 9 [] [.int .i64 k, .sl .ex l] (.agg (exC (opE k 0 l))) [] := by
  refine fnT hT4 hmx Tryz.func9 rfl rfl (ex := []) ?_
  conv => whnf
  exact ⟨leA_refl rfl, leH_nil⟩
theorem y11 (n : Int) : Fn 11 [] [.int .i64 n] (.agg (exC (ratE ⟨n, 1⟩))) [] := by
  refine fnT hT4 hmx Tryz.func11 rfl rfl (ex := []) ?_
  conv => whnf
  exact ⟨leA_agg (leL_cons (leA_refl rfl) (leL_cons (leA_refl rfl) (leL_cons (leA_refl rfl) (leL_cons (leA_refl rfl) (leL_cons (leA_refl rfl) (leL_cons (leA_nil rfl) leL_nil)))))), leH_nil⟩
end Go.Proofs.YtnijmbnkcmhfpaaGreatDoor
