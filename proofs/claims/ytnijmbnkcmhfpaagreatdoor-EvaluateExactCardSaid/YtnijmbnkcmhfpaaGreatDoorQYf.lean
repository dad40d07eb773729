/-
  Environments of distinct names: plain functions.
-/
import Derived.Test.YtnijmbnkcmhfpaaGreatDoorQWx
import Derived.Test.YtnijmbnkcmhfpaaGreatDoorQIX
import Derived.Test.YtnijmbnkcmhfpaaGreatDoorQYe
import Derived.Test.YtnijmbnkcmhfpaaGreatDoorQVw
import Derived.Test.YtnijmbnkcmhfpaaGreatDoorQUa
import Derived.Test.YtnijmbnkcmhfpaaGreatDoorQCk
import Derived.Test.YtnijmbnkcmhfpaaGreatDoorQYD
set_option linter.unusedVariables false
set_option linter.unusedSimpArgs false
namespace Go.Proofs.YtnijmbnkcmhfpaaGreatDoor
open Go Go.Sx
/-! ### Environments of distinct names -/
def lookR : List Bytes → List Rt → Bytes → Option Rt
  | n :: ns, r :: rs, s => if s = n then some r else lookR ns rs s
  | _, _, _ => none
theorem key_sR (a b : Bytes) : keyB .str a b = decide (a = b) := by
  rw [Bool.eq_iff_iff, decide_eq_true_eq]
  exact beq_iff_eq (α := List UInt8)
theorem mget_putR (x y : Bytes) (r z : Rt) : ∀ es : Env0, mget .str x z (mput .str y r es) = if x = y then r else mget .str x z es
  | [] => by
    by_cases h : x = y
    · subst h; simp [mput, mget, key_sR]
    · simp [mput, mget, key_sR, h]
  | (w, v) :: l => by
    have ih := mget_putR x y r z l
    by_cases h : y = w
    · subst h
      by_cases h2 : x = y
      · subst h2; simp [mput, mget, key_sR]
      · simp [mput, mget, key_sR, h2]
    · by_cases h2 : x = w
      · subst h2
        have h' : ¬ x = y := fun e => h e.symm
        simp [mput, mget, key_sR, h, h']
      · simp [mput, mget, key_sR, h, h2]; simpa using ih
theorem mhas_putR (x y : Bytes) (r : Rt) : ∀ es : Env0, mhas .str x (mput .str y r es) = (decide (x = y) || mhas .str x es)
  | [] => by simp [mput, mhas, key_sR]
  | (w, v) :: l => by
    have ih := mhas_putR x y r l
    by_cases h : y = w
    · subst h
      by_cases h2 : x = y
      · subst h2; simp [mput, mhas, key_sR]
      · simp [mput, mhas, key_sR, h2]
    · by_cases h2 : x = w
      · subst h2; simp [mput, mhas, key_sR, h]
      · simp [mput, mhas, key_sR, h, h2]; simpa using ih
theorem mput_lenR (y : Bytes) (r : Rt) : ∀ es : Env0, mhas .str y es = false → (mput .str y r es).length = es.length + 1
  | [], _ => rfl
  | (w, v) :: l, h => by
    by_cases h2 : y = w
    · subst h2; simp [mhas, key_sR] at h
    · have h3 : mhas .str y l = false := by simpa [mhas, key_sR, h2] using h
      have ih := mput_lenR y r l h3
      simp [mput, key_sR, h2, ih]
theorem look_not {s : Bytes} : ∀ {ns : List Bytes} {rs : List Rt}, s ∉ ns → lookR ns rs s = none
  | [], _, _ => rfl
  | n :: ns, [], _ => rfl
  | n :: ns, r :: rs, h => by
    have h1 : ¬ s = n := fun e => h (by rw [e]; exact List.mem_cons_self)
    simp only [lookR, if_neg h1]
    exact look_not fun hm => h (List.mem_cons_of_mem _ hm)
theorem mget_L (s : Bytes) (z : Rt) : ∀ (ns : List Bytes) (rs : List Rt) (es : Env0), ns.Nodup → mget .str s z (envL ns rs es) = (lookR ns rs s).getD (mget .str s z es)
  | [], _, es, _ => rfl
  | n :: ns, [], es, _ => rfl
  | n :: ns, r :: rs, es, h => by
    rw [List.nodup_cons] at h
    simp only [envL, lookR]
    rw [mget_L s z ns rs _ h.2, mget_putR]
    by_cases h1 : s = n
    · subst h1; rw [look_not h.1]; simp
    · simp [h1]
theorem mhas_L (s : Bytes) : ∀ (ns : List Bytes) (rs : List Rt) (es : Env0), mhas .str s (envL ns rs es) = ((lookR ns rs s).isSome || mhas .str s es)
  | [], _, es => rfl
  | n :: ns, [], es => rfl
  | n :: ns, r :: rs, es => by
    simp only [envL, lookR]
    rw [mhas_L s ns rs _, mhas_putR]
    by_cases h1 : s = n
    · subst h1; simp
    · simp [h1]
theorem len_L : ∀ (ns : List Bytes) (rs : List Rt) (es : Env0), ns.Nodup → ns.length = rs.length → (∀ n ∈ ns, mhas .str n es = false) → (envL ns rs es).length = es.length + ns.length
  | [], _, es, _, _, _ => rfl
  | n :: ns, [], es, _, hl, _ => by simp at hl
  | n :: ns, r :: rs, es, h, hl, hh => by
    rw [List.nodup_cons] at h
    simp only [envL]
    have hl : ns.length = rs.length := by simpa using hl
    rw [len_L ns rs _ h.2 hl fun m hm => ?_, mput_lenR n r es (hh n List.mem_cons_self)]
    · simp only [List.length_cons]; omega
    · rw [mhas_putR, hh m (List.mem_cons_of_mem _ hm)]
      have : ¬ m = n := fun e => h.1 (by rw [← e]; exact hm)
      simp [this]
theorem ix_look (s : Bytes) : ∀ (ns : List Bytes) (rs : List Rt) (i : Nat), ns.length = rs.length →
    (∃ k : Nat, ixP (eqS s) ns i = ((i + k : Nat) : Int) ∧ k < rs.length ∧ ∃ r, rs[k]? = some r ∧ lookR ns rs s = some r) ∨ (ixP (eqS s) ns i = -1 ∧ lookR ns rs s = none)
  | [], _, i, _ => .inr ⟨rfl, rfl⟩
  | n :: ns, [], i, h => by simp at h
  | n :: ns, r :: rs, i, h => by
    have h : ns.length = rs.length := by simpa using h
    by_cases h1 : s = n
    · left
      refine ⟨0, ?_, by simp, r, rfl, by simp [lookR, h1]⟩
      simp [ixP, eqS, h1]
    · have he : ¬ eqS s n = true := by simpa [eqS] using h1
      simp only [ixP, lookR, if_neg h1, if_neg he]
      rcases ix_look s ns rs (i + 1) h with ⟨k, a, b, r', c, d⟩ | ⟨a, b⟩
      · left
        refine ⟨k + 1, by rw [a]; congr 1; omega, by simp only [List.length_cons]; omega, r', by simpa using c, d⟩
      · exact .inr ⟨a, b⟩
end Go.Proofs.YtnijmbnkcmhfpaaGreatDoor

/-
  The reference's exact values.
-/
namespace Go.Proofs.YtnijmbnkcmhfpaaGreatDoor
open Go Go.Sx
set_option maxRecDepth 100000
set_option maxHeartbeats 8000000
theorem rMake_own {r : Rt} (h : rOk r = true) : rMake r.n r.d = (r, 0) := by
  have hi := rOk_in h
  have hg : Nat.gcd r.n.natAbs r.d.natAbs = 1 := by simp [rOk] at h; exact h.2
  obtain ⟨h1, h2, h3, h4⟩ := hi
  obtain ⟨n, d⟩ := r
  simp only at h1 h2 h3 h4 hg
  have hl : low (decide (n < 0) != decide (d < 0)) n.natAbs d.natAbs = some ⟨n, d⟩ := by
    unfold low
    rw [hg, Nat.div_one, Nat.div_one, if_pos (by omega)]
    have hd : decide (d < 0) = false := by simp; omega
    rw [hd]
    by_cases hn : n < 0
    · simp [hn]; omega
    · simp [hn]; omega
  unfold rMake
  rw [if_neg (by show ¬ d = 0; omega)]
  simp only [hl]
/-- A result; with an error, the ratio is the zero value. -/
def nrm (p : Rt × Int) : Rt × Int := if p.2 = 0 then p else (⟨0, 0⟩, p.2)
theorem nrm_ok {p : Rt × Int} (h : p.2 = 0) : nrm p = p := if_pos h
theorem nrm_no {p : Rt × Int} (h : p.2 ≠ 0) : nrm p = (⟨0, 0⟩, p.2) := if_neg h
theorem nrm_op (a b : Rt) (n d : Int) : nrm (rOp a b n d) = rOp a b n d := by
  by_cases h : (rOp a b n d).2 = 0
  · exact nrm_ok h
  · rw [nrm_no h]
    have h1 : (rOp a b n d).1 = ⟨0, 0⟩ := by
      unfold rOp at h ⊢
      split
      · rename_i hh; rw [if_pos hh] at h; exact rMake_err h
      · rfl
    rw [← h1]
theorem nrm_pow (a : Rt) : ∀ (n : Nat) (r : Rt), nrm (powX a n r) = powX a n r
  | 0, r => nrm_ok rfl
  | n + 1, r => by
    simp only [powX]
    split
    · exact nrm_pow a n _
    · exact nrm_op _ _ _ _
theorem neg_val {a : Rt} (h : rOk a = true) : rSub ⟨0, 1⟩ a = (⟨-a.n, a.d⟩, 0) := by
  unfold rSub
  rw [rOp_yes ok01' h]
  have := rMake_own (r := ⟨-a.n, a.d⟩) (by rw [rOk_neg]; exact h)
  simp only [Int.zero_mul, Int.mul_one, Int.one_mul, Int.zero_sub]
  exact this
section
variable (ns : List Bytes) (rs : List Rt) (es : Env0) (hes : envL ns rs [] = es) (hnd : ns.Nodup) (hl : ns.length = rs.length) (hn : ns.length < 9223372036854775808) (hr : rs.all rOk = true)
abbrev XrOK (e : Ex) : Prop := Fn 22 [] [.agg (exC e), .sl .str ns, .sl .rat rs] (rto (nrm (xcE es e))) []
theorem y22_num (r : Rt) : XrOK ns rs es (ratE r) := by
  unfold XrOK
  rw [xc_rat, nrm_ok rfl]
  refine fnT hT4 hmx Tryz.func22 rfl rfl (ex := []) ?_
  conv => whnf
  exact ⟨leA_refl rfl, leH_nil⟩
include hes hnd hl hn in
theorem y22_var (s : Bytes) (hs : s ∈ ns) : XrOK ns rs es (varE s) := by
  unfold XrOK
  rw [xc_var, nrm_ok rfl, ← hes, mget_L s _ ns rs [] hnd]
  obtain ⟨k, h1, h2, r, h3, h4⟩ | ⟨h1, _⟩ := ix_look s ns rs 0 hl
  · rw [h4, Option.getD_some]
    have h39 := y39 ns s hn
    rw [h1] at h39
    refine fnT hT4 hmx Tryz.func22 rfl rfl (ex := []) ?_
    conv => whnf
    refine ⟨[], _, h39, ?_⟩
    conv => whnf
    refine ⟨⟨by omega, by omega⟩, fun (x : Rt) hx => ?_⟩
    have hx : rs[k]? = some x := by simpa using hx
    obtain rfl : r = x := by rw [h3] at hx; exact Option.some.inj hx
    conv => whnf
    exact ⟨leA_refl rfl, leH_nil⟩
  · exact absurd hs ((ixP_neg s ns).1 (by omega))
theorem y22_neg (a : Ex) (ha : XrOK ns rs es a) (hok : (xcE es a).2 = 0 → rOk (xcE es a).1 = true) : XrOK ns rs es (opE 7 0 [a]) := by
  unfold XrOK at *
  rw [xc_neg]
  generalize xcE es a = A at ha hok
  obtain ⟨x, f⟩ := A
  simp only at hok
  by_cases h : f = 0
  · subst h
    have hok := hok rfl
    have hin := rOk_in hok
    rw [nrm_ok rfl] at ha
    simp only [if_pos]
    rw [neg_val hok, nrm_ok rfl]
    refine fnT hT4 hmx Tryz.func22 rfl rfl (ex := []) ?_
    conv => whnf
    refine ix0 ?_
    conv => whnf
    refine ⟨[], _, ha, ?_⟩
    conv => whnf
    exact ⟨leA_tup (leL_cons (leA_agg (leL_cons (leA_int (by show IntKind.i64.wrap (0 - x.n) = -x.n; unfold rIn at hin; rw [wI (by omega)]; omega)) (leL_cons (leA_refl rfl) leL_nil))) (leL_cons (leA_refl rfl) leL_nil)), leH_nil⟩
  · rw [nrm_no h] at ha
    simp only [if_neg h]
    rw [nrm_no h]
    refine fnT hT4 hmx Tryz.func22 rfl rfl (ex := []) ?_
    conv => whnf
    refine ix0 ?_
    conv => whnf
    refine ⟨[], _, ha, ?_⟩
    conv => whnf
    refine brI (fun _ => ?_) (fun h1 => absurd (by simpa using h1) h)
    conv => whnf
    exact ⟨leA_refl rfl, leH_nil⟩
theorem y22_pow (n : Int) (h0 : 0 ≤ n) (h16 : n ≤ 16) (a : Ex) (ha : XrOK ns rs es a) : XrOK ns rs es (opE 8 n [a]) := by
  unfold XrOK at *
  rw [xc_pow]
  generalize xcE es a = A at ha
  obtain ⟨x, f⟩ := A
  by_cases h : f = 0
  · subst h
    rw [nrm_ok rfl] at ha
    simp only [if_pos]
    rw [nrm_pow]
    obtain ⟨W, hW⟩ : ∃ W, powX x n.toNat ⟨1, 1⟩ = W := ⟨_, rfl⟩
    rw [hW]
    refine fnT hT4 hmx Tryz.func22 rfl rfl (ex := []) ?_
    conv => whnf
    refine ix0 ?_
    conv => whnf
    refine ⟨[], _, ha, ?_⟩
    conv => whnf
    refine ⟨Nat × Rt × Int, fun y => (y.1 : Int) ≤ n ∧ (y.2.2 = 0 → powX x (n.toNat - y.1) y.2.1 = W) ∧ (y.2.2 ≠ 0 → (y.2.1, y.2.2) = W), fun y => [(11, .int .i64 y.1), (9, .int .i64 y.2.2)], fun y => [(10, .cells [.int .i64 y.2.1.n, .int .i64 y.2.1.d])], fun y => n.toNat - y.1, (0, ⟨1, 1⟩, 0), ⟨by simpa using h0, fun _ => hW, fun h => absurd rfl h⟩, ?_, fun y hy => ?_⟩
    · ((conv => whnf); refine And.intro ?_ ?_; repeat' first | refine leL_cons ?_ ?_ | exact leA_any | exact leA_refl rfl | exact leL_nil | refine leH_cons ?_ ?_ | exact leH_nil | exact leB_free | exact leB_dead | refine leB_cells ?_ | exact leB_map rfl | exact leB_gst rfl | exact leA_nil rfl | refine leA_agg ?_ | refine leA_tup ?_ | fail)
    (refine ⟨by kernel_rfl, ?_⟩; (conv => whnf))
    obtain ⟨j, r, g⟩ := y
    obtain ⟨hy1, hy2, hy3⟩ := hy
    simp only at hy1 hy2 hy3
    refine brI (fun h2 => ?_) (fun h2 => ?_)
    · conv => whnf
      have h2 : (j : Int) < n := of_decide_eq_true h2
      refine brI (fun h3 => ?_) (fun h3 => ?_)
      · have h3 : g = 0 := by simpa using h3
        have hy2 := hy2 h3
        rw [show n.toNat - j = (n.toNat - (j + 1)) + 1 by omega] at hy2
        simp only [powX] at hy2
        have h45 := f150 r x
        generalize rMul r x = B at h45 hy2
        obtain ⟨r2, g2⟩ := B
        simp only at hy2
        conv => whnf
        refine ⟨[], rto (r2, g2), h45, ?_⟩
        conv => whnf
        refine ⟨(j + 1, r2, g2), ⟨by simp only; omega, fun h => ?_, fun h => ?_⟩, by show n.toNat - (j + 1) < n.toNat - j; omega, ?_⟩
        · simp only at h; rw [if_pos h] at hy2; exact hy2
        · simp only at h; rw [if_neg h] at hy2; exact hy2
        ((conv => whnf); refine And.intro ?_ ?_; repeat' first | refine leL_cons ?_ ?_ | exact leA_any | exact leA_refl rfl | exact leL_nil | refine leH_cons ?_ ?_ | exact leH_nil | exact leB_free | exact leB_dead | refine leB_cells ?_ | exact leB_map rfl | exact leB_gst rfl | exact leA_nil rfl | refine leA_agg ?_ | refine leA_tup ?_ | fail)
        exact leA_int (by rw [wI (by simp only; omega)]; simp only; omega)
      · conv => whnf
        have h3 : g ≠ 0 := by simpa using h3
        have hy3 := hy3 h3
        subst hy3
        exact ⟨leA_refl rfl, leH_nil⟩
    · conv => whnf
      have h2 : ¬ (j : Int) < n := of_decide_eq_false h2
      have h3 : (r, g) = W := by
        by_cases hg : g = 0
        · have := hy2 hg
          rw [show n.toNat - j = 0 by omega] at this
          rw [← this, hg]; rfl
        · exact hy3 hg
      subst h3
      exact ⟨leA_refl rfl, leH_nil⟩
  · rw [nrm_no h] at ha
    simp only [if_neg h]
    rw [nrm_no h]
    refine fnT hT4 hmx Tryz.func22 rfl rfl (ex := []) ?_
    conv => whnf
    refine ix0 ?_
    conv => whnf
    refine ⟨[], _, ha, ?_⟩
    conv => whnf
    refine brI (fun _ => ?_) (fun h1 => absurd (by simpa using h1) h)
    conv => whnf
    exact ⟨leA_refl rfl, leH_nil⟩
theorem y22_two (k : Int) (hk : K2 k) (a b : Ex) (ha : XrOK ns rs es a) (hb : XrOK ns rs es b) : XrOK ns rs es (opE k 0 [a, b]) := by
  unfold XrOK at *
  rw [xc_two es k a b (by unfold K2 at hk; omega) (by unfold K2 at hk; omega)]
  generalize xcE es a = A at ha
  generalize xcE es b = B at hb
  obtain ⟨x, f⟩ := A
  obtain ⟨y, g⟩ := B
  have h46 := f148 x y
  have h47 := f149 x y
  have h45 := f150 x y
  have h48 := f151 x y
  by_cases h : f = 0
  · subst h
    rw [nrm_ok rfl] at ha
    simp only [if_pos]
    by_cases h1 : g = 0
    · subst h1
      rw [nrm_ok rfl] at hb
      simp only [if_pos]
      rcases hk with rfl | rfl | rfl | rfl
      · rw [show nrm (xop 3 0 x y) = rAdd x y from nrm_op _ _ _ _]
        refine fnT hT4 hmx Tryz.func22 rfl rfl (ex := []) ?_
        conv => whnf
        refine ix0 ?_
        conv => whnf
        refine ⟨[], _, ha, ?_⟩
        conv => whnf
        refine ix1 ?_
        conv => whnf
        refine ⟨[], _, hb, ?_⟩
        conv => whnf
        refine ⟨[], _, h46, ?_⟩
        conv => whnf
        exact ⟨leA_refl rfl, leH_nil⟩
      · rw [show nrm (xop 4 0 x y) = rSub x y from nrm_op _ _ _ _]
        refine fnT hT4 hmx Tryz.func22 rfl rfl (ex := []) ?_
        conv => whnf
        refine ix0 ?_
        conv => whnf
        refine ⟨[], _, ha, ?_⟩
        conv => whnf
        refine ix1 ?_
        conv => whnf
        refine ⟨[], _, hb, ?_⟩
        conv => whnf
        refine ⟨[], _, h47, ?_⟩
        conv => whnf
        exact ⟨leA_refl rfl, leH_nil⟩
      · rw [show nrm (xop 5 0 x y) = rMul x y from nrm_op _ _ _ _]
        refine fnT hT4 hmx Tryz.func22 rfl rfl (ex := []) ?_
        conv => whnf
        refine ix0 ?_
        conv => whnf
        refine ⟨[], _, ha, ?_⟩
        conv => whnf
        refine ix1 ?_
        conv => whnf
        refine ⟨[], _, hb, ?_⟩
        conv => whnf
        refine ⟨[], _, h45, ?_⟩
        conv => whnf
        exact ⟨leA_refl rfl, leH_nil⟩
      · rw [show nrm (xop 6 0 x y) = rDiv x y from nrm_op _ _ _ _]
        refine fnT hT4 hmx Tryz.func22 rfl rfl (ex := []) ?_
        conv => whnf
        refine ix0 ?_
        conv => whnf
        refine ⟨[], _, ha, ?_⟩
        conv => whnf
        refine ix1 ?_
        conv => whnf
        refine ⟨[], _, hb, ?_⟩
        conv => whnf
        refine ⟨[], _, h48, ?_⟩
        conv => whnf
        exact ⟨leA_refl rfl, leH_nil⟩
    · rw [nrm_no h1] at hb
      simp only [if_neg h1]
      rw [nrm_no h1]
      rcases hk with rfl | rfl | rfl | rfl
      all_goals
        refine fnT hT4 hmx Tryz.func22 rfl rfl (ex := []) ?_
        conv => whnf
        refine ix0 ?_
        conv => whnf
        refine ⟨[], _, ha, ?_⟩
        conv => whnf
        refine ix1 ?_
        conv => whnf
        refine ⟨[], _, hb, ?_⟩
        conv => whnf
        refine brI (fun _ => ?_) (fun h2 => absurd (by simpa using h2) h1)
        conv => whnf
        exact ⟨leA_refl rfl, leH_nil⟩
  · rw [nrm_no h] at ha
    simp only [if_neg h]
    rw [nrm_no h]
    rcases hk with rfl | rfl | rfl | rfl
    all_goals
      refine fnT hT4 hmx Tryz.func22 rfl rfl (ex := []) ?_
      conv => whnf
      refine ix0 ?_
      conv => whnf
      refine ⟨[], _, ha, ?_⟩
      conv => whnf
      refine brI (fun _ => ?_) (fun h1 => absurd (by simpa using h1) h)
      conv => whnf
      exact ⟨leA_refl rfl, leH_nil⟩
/-- Where there is no error, the value is valid. -/
theorem xc_ok {e : Ex} (h : VT e) (hr : allE (fun y => decide (y.k < 9)) e = true) (hv : VarsOk es e) (h0 : (xcE es e).2 = 0) : rOk (xcE es e).1 = true := by
  obtain ⟨h1, h2⟩ := xc_val es h hr hv
  obtain ⟨x, hx⟩ := h2 h0
  exact (done_ok (h1 x hx) h0).1
include hes hnd hl hn in
theorem y22 {e : Ex} (h : VT e) (hr : allE (fun y => decide (y.k < 9)) e = true) (hv : VarsOk es e) (hm : ∀ y ∈ preE e, y.k = 2 → y.s ∈ ns) : XrOK ns rs es e := by
  induction h with
  | num r _ => exact y22_num ns rs es r
  | var s _ => exact y22_var ns rs es hes hnd hl hn s (hm (varE s) (by simp [varE, preE, preL]) rfl)
  | un k a hk ha ih =>
    have hr : (decide (k < 9) && (allE (fun y => decide (y.k < 9)) a && true)) = true := hr
    simp only [Bool.and_eq_true, decide_eq_true_eq, Bool.and_true] at hr
    obtain rfl : k = 7 := by unfold K1 at hk; omega
    have hsub : ∀ y ∈ preE a, y ∈ preE (opE 7 0 [a]) := fun y hy => by simp only [opE, preE, preL, List.append_nil]; exact List.mem_cons_of_mem _ hy
    have hva : VarsOk es a := fun y hy => hv y (hsub y hy)
    exact y22_neg ns rs es a (ih hr.2 hva fun y hy => hm y (hsub y hy)) (xc_ok es ha hr.2 hva)
  | pow n a h1 h2 _ ih =>
    have hr : (decide ((8 : Int) < 9) && (allE (fun y => decide (y.k < 9)) a && true)) = true := hr
    simp only [Bool.and_eq_true, decide_eq_true_eq, Bool.and_true] at hr
    have hsub : ∀ y ∈ preE a, y ∈ preE (opE 8 n [a]) := fun y hy => by simp only [opE, preE, preL, List.append_nil]; exact List.mem_cons_of_mem _ hy
    exact y22_pow ns rs es n h1 h2 a (ih hr.2 (fun y hy => hv y (hsub y hy)) fun y hy => hm y (hsub y hy))
  | bin k a b hk _ _ ih1 ih2 =>
    have hr : (decide (k < 9) && (allE (fun y => decide (y.k < 9)) a && (allE (fun y => decide (y.k < 9)) b && true))) = true := hr
    simp only [Bool.and_eq_true, decide_eq_true_eq, Bool.and_true] at hr
    have hs1 : ∀ y ∈ preE a, y ∈ preE (opE k 0 [a, b]) := fun y hy => by simp only [opE, preE, preL, List.append_nil]; exact List.mem_cons_of_mem _ (List.mem_append_left _ hy)
    have hs2 : ∀ y ∈ preE b, y ∈ preE (opE k 0 [a, b]) := fun y hy => by simp only [opE, preE, preL, List.append_nil]; exact List.mem_cons_of_mem _ (List.mem_append_right _ hy)
    have i1 := ih1 hr.2.1 (fun y hy => hv y (hs1 y hy)) fun y hy => hm y (hs1 y hy)
    have i2 := ih2 hr.2.2 (fun y hy => hv y (hs2 y hy)) fun y hy => hm y (hs2 y hy)
    exact y22_two ns rs es k hk a b i1 i2
end
end Go.Proofs.YtnijmbnkcmhfpaaGreatDoor

/-
  The reference's Exactly: it gives what Exactly gives; the law.
-/
namespace Go.Proofs.YtnijmbnkcmhfpaaGreatDoor
open Go Go.Sx
set_option maxRecDepth 100000
set_option maxHeartbeats 8000000
mutual
theorem allE_pre (p : Ex → Bool) : ∀ e, allE p e = (preE e).all p
  | .mk k q s n l => by simp only [allE, preE, List.all_cons, allL_pre p l]
theorem allL_pre (p : Ex → Bool) : ∀ l, allL p l = (preL l).all p
  | [] => by simp [allL, preL]
  | x :: l => by simp only [allL, preL, List.all_append, allE_pre p x, allL_pre p l]
end
theorem look_some {s : Bytes} : ∀ {ns : List Bytes} {rs : List Rt}, ns.length = rs.length → ((lookR ns rs s).isSome = true ↔ s ∈ ns)
  | [], _, _ => by simp [lookR]
  | n :: ns, [], h => by simp at h
  | n :: ns, r :: rs, h => by
    have ih := look_some (s := s) (ns := ns) (rs := rs) (by simpa using h)
    simp only [lookR]
    by_cases h1 : s = n
    · simp [h1]
    · simp [h1, ih]
theorem envL_le : ∀ (ns : List Bytes) (rs : List Rt) (es : Env0), (envL ns rs es).length ≤ es.length + ns.length
  | [], _, es => by simp [envL]
  | n :: ns, [], es => by simp [envL]
  | n :: ns, r :: rs, es => by
    have := envL_le ns rs (mput .str n r es)
    have := mput_len n r es
    simp only [envL, List.length_cons]; omega
theorem mput_same {y : Bytes} {r : Rt} : ∀ {es : Env0}, mhas .str y es = true → (mput .str y r es).length = es.length
  | [], h => by simp [mhas] at h
  | (w, v) :: l, h => by
    by_cases h2 : y = w
    · subst h2; simp [mput, key_sR]
    · have h3 : mhas .str y l = true := by simpa [mhas, key_sR, h2] using h
      have ih := mput_same (r := r) h3
      simp [mput, key_sR, h2, ih]
/-- As many entries as names: no name is there twice. -/
theorem nodup_env : ∀ (ns : List Bytes) (rs : List Rt) (es : Env0), ns.length = rs.length → (envL ns rs es).length = es.length + ns.length → ns.Nodup ∧ ∀ n ∈ ns, mhas .str n es = false
  | [], _, es, _, _ => by simp
  | n :: ns, [], es, h, _ => by simp at h
  | n :: ns, r :: rs, es, h, hl => by
    have h : ns.length = rs.length := by simpa using h
    simp only [envL, List.length_cons] at hl
    have h1 := envL_le ns rs (mput .str n r es)
    have h2 := mput_len n r es
    have h3 : mhas .str n es = false := by
      cases hh : mhas .str n es with
      | false => rfl
      | true => have := mput_same (r := r) hh; omega
    have h4 := mput_lenR n r es h3
    obtain ⟨h5, h6⟩ := nodup_env ns rs (mput .str n r es) h (by omega)
    refine ⟨List.nodup_cons.2 ⟨fun hm => ?_, h5⟩, fun m hm => ?_⟩
    · have := h6 n hm
      rw [mhas_putR] at this; simp at this
    · rcases List.mem_cons.1 hm with rfl | hm
      · exact h3
      · have := h6 m hm
        rw [mhas_putR] at this
        simp only [Bool.or_eq_false_iff] at this
        exact this.2
theorem nodup_iff {ns : List Bytes} {rs : List Rt} (h : ns.length = rs.length) : (envL ns rs []).length = rs.length ↔ ns.Nodup := by
  constructor
  · intro hl; exact (nodup_env ns rs [] h (by simp; omega)).1
  · intro hn; rw [len_L ns rs [] hn h (by simp [mhas])]; simp; omega
/-- The conditions of both. -/
theorem cond_iff {e : Ex} {ns : List Bytes} {rs : List Rt} : ((ns.length = rs.length ∧ ns.length ≤ 200) ∧ (envL ns rs []).length = rs.length ∧ ratB e = true ∧ rs.all rOk = true ∧ (nmE e).all (hasN (envL ns rs [])) = true) ↔
    (nmsB ns = true ∧ ns.length = rs.length ∧ knB e ns = true ∧ ((preE e).all fun y => decide (y.k < 9)) = true ∧ rs.all rOk = true) := by
  unfold nmsB knB ratB
  rw [allE_pre]
  simp only [decide_eq_true_eq, Bool.and_eq_true]
  constructor
  · rintro ⟨⟨h1, h2⟩, h3, ⟨h4, h5⟩, h6, h7⟩
    refine ⟨⟨(nodup_iff h1).1 h3, h2⟩, h1, ⟨h4, fun y hy hk => ?_⟩, h5, h6⟩
    have := (nm_all h4 _).1 h7 y hy hk
    unfold hasN at this
    rw [mhas_L] at this
    simp only [mhas, Bool.or_false] at this
    exact (look_some h1).1 this
  · rintro ⟨⟨h1, h2⟩, h3, ⟨h4, h5⟩, h6, h7⟩
    refine ⟨⟨h3, h2⟩, (nodup_iff h3).2 h1, ⟨h4, h6⟩, h7, (nm_all h4 _).2 fun y hy hk => ?_⟩
    unfold hasN
    rw [mhas_L, (look_some h3).2 (h5 y hy hk)]; rfl
theorem exF_yes {e : Ex} {ns : List Bytes} {rs : List Rt} (h : nmsB ns = true ∧ ns.length = rs.length ∧ knB e ns = true ∧ ((preE e).all fun y => decide (y.k < 9)) = true ∧ rs.all rOk = true) : exF e ns rs = nrm (xcE (envL ns rs []) e) := by
  unfold exF; rw [if_pos (cond_iff.2 h)]; rfl
theorem exF_no {e : Ex} {ns : List Bytes} {rs : List Rt} (h : ¬ (nmsB ns = true ∧ ns.length = rs.length ∧ knB e ns = true ∧ ((preE e).all fun y => decide (y.k < 9)) = true ∧ rs.all rOk = true)) : exF e ns rs = (⟨0, 0⟩, 1) := by
  unfold exF; rw [if_neg fun hh => h (cond_iff.1 hh)]
theorem y6 (e : Ex) (ns : List Bytes) (rs : List Rt) (he : Sm e) (h1 : ns.length < 9223372036854775808) (_ : rs.length < 9223372036854775808) :
    Fn 6 [] [.agg (exC e), .sl .str ns, .sl .rat rs] (rto (exF e ns rs)) [] := by
  obtain ⟨A, hA⟩ : ∃ A, exF e ns rs = A := ⟨_, rfl⟩
  rw [hA]
  have h18 := y18 ns h1
  have h19 := y19 e ns he h1
  have hno : ¬ (nmsB ns = true ∧ ns.length = rs.length ∧ knB e ns = true ∧ ((preE e).all fun y => decide (y.k < 9)) = true ∧ rs.all rOk = true) → A = (⟨0, 0⟩, 1) := fun h => by rw [← hA]; exact exF_no h
  have hyes : nmsB ns = true → ns.length = rs.length → knB e ns = true → ((preE e).all fun y => decide (y.k < 9)) = true → rs.all rOk = true → A = nrm (xcE (envL ns rs []) e) ∧ Fn 22 [] [.agg (exC e), .sl .str ns, .sl .rat rs] (rto (nrm (xcE (envL ns rs []) e))) [] := by
    intro a b c d f
    refine ⟨by rw [← hA]; exact exF_yes ⟨a, b, c, d, f⟩, ?_⟩
    have a' : ns.Nodup ∧ ns.length ≤ 200 := by unfold nmsB at a; simpa using a
    have c' : okT e = true ∧ ∀ y ∈ preE e, y.k = 2 → y.s ∈ ns := by unfold knB at c; simpa using c
    refine y22 ns rs _ rfl a'.1 b h1 (okT_VT c'.1) (by rw [allE_pre]; exact d) (fun y hy hk => ?_) c'.2
    have hm : mhas .str y.s (envL ns rs []) = true := by rw [mhas_L, (look_some b).2 (c'.2 y hy hk)]; rfl
    obtain ⟨p, hp, hpe⟩ := mget_mem hm (z := ⟨0, 0⟩)
    rw [hpe]
    exact envA_L f (fun p hp => by cases hp) p hp
  have h20 : knB e ns = true → Fn 20 [] [.agg (exC e)] (.bool ((preE e).all fun y => decide (y.k < 9))) [] := fun c => y20 e (by
    have c' : okT e = true := by unfold knB at c; simp only [Bool.and_eq_true] at c; exact c.1
    have := sz_ok c'; omega)
  clear hA
  generalize (preE e).all (fun y => decide (y.k < 9)) = q at *
  generalize nmsB ns = n at *
  generalize knB e ns = k at *
  generalize xcE (envL ns rs []) e = X at *
  cases e
  refine fnT hT4 hmx Tryz.func6 rfl rfl (ex := []) ?_
  conv => whnf
  refine cbI [] n h18 (fun e1 => ?_) (fun e1 => ?_)
  rotate_left
  · obtain rfl := hno fun h => by rw [e1] at h; cases h.1
    conv => whnf
    exact ⟨leA_refl rfl, leH_nil⟩
  conv => whnf
  refine brI (fun e2 => ?_) (fun e2 => ?_)
  · have e2 : ((ns.length : Int) != (rs.length : Int)) = true := e2
    obtain rfl := hno fun h => by rw [h.2.1] at e2; simp at e2
    conv => whnf
    exact ⟨leA_refl rfl, leH_nil⟩
  have e2 : ((ns.length : Int) != (rs.length : Int)) = false := e2
  have e2 : ns.length = rs.length := by simp only [bne_eq_false_iff_eq] at e2; omega
  conv => whnf
  refine cbI [] k h19 (fun e3 => ?_) (fun e3 => ?_)
  rotate_left
  · obtain rfl := hno fun h => by rw [e3] at h; cases h.2.2.1
    conv => whnf
    exact ⟨leA_refl rfl, leH_nil⟩
  conv => whnf
  refine cbI [] q (h20 e3) (fun e4 => ?_) (fun e4 => ?_)
  rotate_left
  · obtain rfl := hno fun h => by rw [e4] at h; cases h.2.2.2.1
    conv => whnf
    exact ⟨leA_refl rfl, leH_nil⟩
  conv => whnf
  refine ⟨Nat, fun i => i ≤ rs.length ∧ (rs.drop i).all rOk = rs.all rOk, fun i => [(8, .int .i64 i)], fun _ => [], fun i => rs.length - i, 0, ⟨by simp, rfl⟩, ?_, fun i hi => ?_⟩
  · ((conv => whnf); refine And.intro ?_ ?_; repeat' first | refine leL_cons ?_ ?_ | exact leA_any | exact leA_refl rfl | exact leL_nil | refine leH_cons ?_ ?_ | exact leH_nil | exact leB_free | exact leB_dead | refine leB_cells ?_ | exact leB_map rfl | exact leB_gst rfl | exact leA_nil rfl | refine leA_agg ?_ | refine leA_tup ?_ | fail)
  (refine ⟨by kernel_rfl, ?_⟩; (conv => whnf))
  obtain ⟨hi1, hi2⟩ := hi
  refine brI (fun h4 => ?_) (fun h4 => ?_)
  · conv => whnf
    have h4 : i < rs.length := by simp only [decide_eq_true_eq] at h4; omega
    refine ⟨⟨by omega, by omega⟩, fun r hr => ?_⟩
    have hr : rs[i]? = some r := by simpa using hr
    rw [drop_get hr] at hi2
    simp only [List.all_cons] at hi2
    conv => whnf
    refine cbI [] (rOk r) (f131 r.n r.d) (fun h5 => ?_) (fun h5 => ?_)
    · conv => whnf
      rw [h5] at hi2
      refine ⟨i + 1, ⟨by omega, by simpa using hi2⟩, by show rs.length - (i + 1) < rs.length - i; omega, ?_⟩
      ((conv => whnf); refine And.intro ?_ ?_; repeat' first | refine leL_cons ?_ ?_ | exact leA_any | exact leA_refl rfl | exact leL_nil | refine leH_cons ?_ ?_ | exact leH_nil | exact leB_free | exact leB_dead | refine leB_cells ?_ | exact leB_map rfl | exact leB_gst rfl | exact leA_nil rfl | refine leA_agg ?_ | refine leA_tup ?_ | fail)
      exact leA_int (by rw [wI (by omega)]; omega)
    · conv => whnf
      rw [h5] at hi2
      obtain rfl := hno fun h => by rw [h.2.2.2.2] at hi2; simp at hi2
      exact ⟨leA_refl rfl, leH_nil⟩
  have h4 : ¬ i < rs.length := by simp only [decide_eq_false_iff_not] at h4; omega
  have hok : rs.all rOk = true := by rw [← hi2, List.drop_of_length_le (by omega)]; rfl
  obtain ⟨rfl, h22⟩ := hyes e1 e2 e3 e4 hok
  conv => whnf
  refine ⟨[], _, h22, ?_⟩
  conv => whnf
  exact ⟨leA_refl rfl, leH_nil⟩
end Go.Proofs.YtnijmbnkcmhfpaaGreatDoor

/-
  Law 17, EvaluateExact.
-/
namespace Go.Proofs.YtnijmbnkcmhfpaaGreatDoor
open Go Go.Sx
set_option maxRecDepth 100000
set_option maxHeartbeats 8000000
theorem exF_err {e : Ex} {ns : List Bytes} {rs : List Rt} (h : (exF e ns rs).2 ≠ 0) : (exF e ns rs).1 = ⟨0, 0⟩ := by
  unfold exF at h ⊢
  split
  · rename_i hh
    rw [if_pos hh] at h
    split
    · rename_i h2; rw [if_pos h2] at h; exact absurd h2 h
    · rfl
  · rfl
theorem y3 (e : Ex) (ns : List Bytes) (rs : List Rt) (he : Sm e) (h1 : ns.length < 9223372036854775808) (h2 : rs.length < 9223372036854775808) :
    Fn 3 G0 [.agg (exC e), .sl .str ns, .sl .rat rs] (.bool true) G0 := by
  have hx := f51 e ns rs he h1 h2
  have hy := y6 e ns rs he h1 h2
  have herr : (exF e ns rs).2 ≠ 0 → (exF e ns rs).1 = ⟨0, 0⟩ := exF_err
  generalize exF e ns rs = A at hx hy herr
  obtain ⟨⟨n, d⟩, f⟩ := A
  cases e
  refine fnT hT4 hmx Tryz.func3 rfl rfl (ex := []) ?_
  conv => whnf
  refine ⟨[.gst JT], _, y4, ?_⟩
  conv => whnf
  refine brI (fun _ => ?_) (fun _ => ?_)
  · conv => whnf
    exact ⟨leA_refl rfl, leG⟩
  conv => whnf
  refine brI (fun _ => ?_) (fun _ => ?_)
  · conv => whnf
    exact ⟨leA_refl rfl, leG⟩
  conv => whnf
  refine ⟨[], _, hx, ?_⟩
  conv => whnf
  refine ⟨[], _, hy, ?_⟩
  conv => whnf
  refine brI (fun h3 => ?_) (fun h3 => ?_)
  · have h3 : f ≠ 0 := by simpa using h3
    have h4 := herr h3
    simp only at h4
    cases h4
    conv => whnf
    refine brI (fun _ => ?_) (fun h5 => by simp at h5)
    conv => whnf
    exact ⟨leA_refl rfl, leG⟩
  · have h3 : f = 0 := by simpa using h3
    subst h3
    conv => whnf
    exact ⟨leA_bool (by simp), leG⟩
end Go.Proofs.YtnijmbnkcmhfpaaGreatDoor
