/-
  Derivatives: derive.derivative: numbers, variables, functions.
-/
import Derived.Test.YtmcdnbmamoggoaaQUD
import Derived.Test.YtmcdnbmamoggoaaQCk
set_option linter.unusedVariables false
set_option linter.unusedSimpArgs false
namespace Go.Proofs.Ytmcdnbmamoggoaa
open Go Go.Sx
set_option maxRecDepth 100000
set_option maxHeartbeats 8000000
theorem f63_7 {a x : Ex} {nm : Bytes} (ha : VT a) (hx : VT x) (ih : Fn 63 [] [.agg (exC a), .str nm] (.agg (exC x)) []) : Fn 63 [] [exV 7 ⟨0, 0⟩ [] 0 [a], .str nm] (.agg (exC (dif1 7 0 a x))) [] := by
  rw [show dif1 7 0 a x = op1 7 0 x from rfl]
  refine fnT hT hmx Try.func63 rfl rfl (ex := []) ?_
  conv => whnf
  refine ix0 ?_
  conv => whnf
  refine ⟨[], _, ih, ?_⟩
  conv => whnf
  refine ⟨[], _, f115 (k := 7) (a := x) (by unfold K1; omega) hx, ?_⟩
  conv => whnf
  exact ⟨leA_ex rfl, leH_nil⟩
theorem f63_9 {a x : Ex} {nm : Bytes} (ha : VT a) (hx : VT x) (ih : Fn 63 [] [.agg (exC a), .str nm] (.agg (exC x)) []) : Fn 63 [] [exV 9 ⟨0, 0⟩ [] 0 [a], .str nm] (.agg (exC (dif1 9 0 a x))) [] := by
  rw [show dif1 9 0 a x = op2 5 (op1 9 0 a) x from rfl]
  refine fnT hT hmx Try.func63 rfl rfl (ex := []) ?_
  conv => whnf
  refine ix0 ?_
  conv => whnf
  refine ⟨[], _, ih, ?_⟩
  conv => whnf
  refine ⟨[], _, f115 (k := 9) (a := a) (by unfold K1; omega) ha, ?_⟩
  conv => whnf
  refine ⟨[], _, f75 (k := 5) (a := op1 9 0 a) (b := x) (by unfold K2; omega) hx, ?_⟩
  conv => whnf
  (refine ⟨by kernel_rfl, by kernel_rfl, ?_⟩; (conv => whnf))
  exact ⟨leA_ex rfl, leH_nil⟩
theorem f63_10 {a x : Ex} {nm : Bytes} (ha : VT a) (hx : VT x) (ih : Fn 63 [] [.agg (exC a), .str nm] (.agg (exC x)) []) : Fn 63 [] [exV 10 ⟨0, 0⟩ [] 0 [a], .str nm] (.agg (exC (dif1 10 0 a x))) [] := by
  rw [show dif1 10 0 a x = op2 6 x a from rfl]
  refine fnT hT hmx Try.func63 rfl rfl (ex := []) ?_
  conv => whnf
  refine ix0 ?_
  conv => whnf
  refine ⟨[], _, ih, ?_⟩
  conv => whnf
  refine ⟨[], _, f75 (k := 6) (a := x) (b := a) (by unfold K2; omega) ha, ?_⟩
  conv => whnf
  exact ⟨leA_ex rfl, leH_nil⟩
theorem f63_11 {a x : Ex} {nm : Bytes} (ha : VT a) (hx : VT x) (ih : Fn 63 [] [.agg (exC a), .str nm] (.agg (exC x)) []) : Fn 63 [] [exV 11 ⟨0, 0⟩ [] 0 [a], .str nm] (.agg (exC (dif1 11 0 a x))) [] := by
  rw [show dif1 11 0 a x = op2 5 (op1 12 0 a) x from rfl]
  refine fnT hT hmx Try.func63 rfl rfl (ex := []) ?_
  conv => whnf
  refine ix0 ?_
  conv => whnf
  refine ⟨[], _, ih, ?_⟩
  conv => whnf
  refine ⟨[], _, f115 (k := 12) (a := a) (by unfold K1; omega) ha, ?_⟩
  conv => whnf
  refine ⟨[], _, f75 (k := 5) (a := op1 12 0 a) (b := x) (by unfold K2; omega) hx, ?_⟩
  conv => whnf
  (refine ⟨by kernel_rfl, by kernel_rfl, ?_⟩; (conv => whnf))
  exact ⟨leA_ex rfl, leH_nil⟩
theorem f63_12 {a x : Ex} {nm : Bytes} (ha : VT a) (hx : VT x) (ih : Fn 63 [] [.agg (exC a), .str nm] (.agg (exC x)) []) : Fn 63 [] [exV 12 ⟨0, 0⟩ [] 0 [a], .str nm] (.agg (exC (dif1 12 0 a x))) [] := by
  rw [show dif1 12 0 a x = op1 7 0 (op2 5 (op1 11 0 a) x) from rfl]
  refine fnT hT hmx Try.func63 rfl rfl (ex := []) ?_
  conv => whnf
  refine ix0 ?_
  conv => whnf
  refine ⟨[], _, ih, ?_⟩
  conv => whnf
  refine ⟨[], _, f115 (k := 11) (a := a) (by unfold K1; omega) ha, ?_⟩
  conv => whnf
  refine ⟨[], _, f75 (k := 5) (a := op1 11 0 a) (b := x) (by unfold K2; omega) hx, ?_⟩
  conv => whnf
  refine ⟨[], _, f115 (k := 7) (a := op2 5 (op1 11 0 a) x) (by unfold K1; omega) (VT_op2 (by unfold K2; omega) (VT_op1 (.inl ⟨(by unfold K1; omega), rfl⟩) ha) hx), ?_⟩
  conv => whnf
  (refine ⟨by kernel_rfl, by kernel_rfl, ?_⟩; (conv => whnf))
  exact ⟨leA_ex rfl, leH_nil⟩
theorem f63_13 {a x : Ex} {nm : Bytes} (ha : VT a) (hx : VT x) (ih : Fn 63 [] [.agg (exC a), .str nm] (.agg (exC x)) []) : Fn 63 [] [exV 13 ⟨0, 0⟩ [] 0 [a], .str nm] (.agg (exC (dif1 13 0 a x))) [] := by
  rw [show dif1 13 0 a x = op2 6 x (op2 5 (numE 2) (op1 13 0 a)) from rfl]
  refine fnT hT hmx Try.func63 rfl rfl (ex := []) ?_
  conv => whnf
  refine ix0 ?_
  conv => whnf
  refine ⟨[], _, ih, ?_⟩
  conv => whnf
  refine ⟨[], _, f74 2, ?_⟩
  conv => whnf
  refine ⟨[], _, f115 (k := 13) (a := a) (by unfold K1; omega) ha, ?_⟩
  conv => whnf
  refine ⟨[], _, f75 (k := 5) (a := numE 2) (b := op1 13 0 a) (by unfold K2; omega) (VT_op1 (.inl ⟨(by unfold K1; omega), rfl⟩) ha), ?_⟩
  conv => whnf
  refine ⟨[], _, f75 (k := 6) (a := x) (b := op2 5 (numE 2) (op1 13 0 a)) (by unfold K2; omega) (VT_op2 (by unfold K2; omega) (VT_numE (by omega)) (VT_op1 (.inl ⟨(by unfold K1; omega), rfl⟩) ha)), ?_⟩
  conv => whnf
  (refine ⟨by kernel_rfl, by kernel_rfl, ?_⟩; (conv => whnf))
  exact ⟨leA_ex rfl, leH_nil⟩
theorem f63_num (r : Rt) (nm : Bytes) : Fn 63 [] [.agg (exC (ratE r)), .str nm] (.agg (exC (numE 0))) [] := by
  refine fnT hT hmx Try.func63 rfl rfl (ex := []) ?_
  conv => whnf
  refine ⟨[], _, f74 0, ?_⟩
  conv => whnf
  exact ⟨leA_ex rfl, leH_nil⟩
theorem f63_var (s nm : Bytes) : Fn 63 [] [.agg (exC (varE s)), .str nm] (.agg (exC (if s = nm then numE 1 else numE 0))) [] := by
  refine fnT hT hmx Try.func63 rfl rfl (ex := []) ?_
  conv => whnf
  refine brI (fun h => ?_) (fun h => ?_)
  · conv => whnf
    rw [if_pos (show s = nm from by have h : (s == nm) = true := h; simpa using h)]
    refine ⟨[], _, f74 1, ?_⟩
    conv => whnf
    exact ⟨leA_ex rfl, leH_nil⟩
  · conv => whnf
    rw [if_neg (show ¬ s = nm from by have h : (s == nm) = false := h; simpa using h)]
    refine ⟨[], _, f74 0, ?_⟩
    conv => whnf
    exact ⟨leA_ex rfl, leH_nil⟩
end Go.Proofs.Ytmcdnbmamoggoaa

/-
  Derivatives: derive.derivative: powers, operations with two operands.
-/
namespace Go.Proofs.Ytmcdnbmamoggoaa
open Go Go.Sx
set_option maxRecDepth 100000
set_option maxHeartbeats 8000000
theorem f63_8 {a x : Ex} {n : Int} {nm : Bytes} (h0 : 0 ≤ n) (h16 : n ≤ 16) (ha : VT a) (hx : VT x) (ih : Fn 63 [] [.agg (exC a), .str nm] (.agg (exC x)) []) : Fn 63 [] [exV 8 ⟨0, 0⟩ [] n [a], .str nm] (.agg (exC (dif1 8 n a x))) [] := by
  refine fnT hT hmx Try.func63 rfl rfl (ex := []) ?_
  conv => whnf
  refine ix0 ?_
  conv => whnf
  refine ⟨[], _, ih, ?_⟩
  conv => whnf
  refine brI (fun h => ?_) (fun h => ?_)
  · conv => whnf
    have h : n = 0 := by simpa using h
    rw [show dif1 8 n a x = numE 0 by subst h; rfl]
    refine ⟨[], _, f74 0, ?_⟩
    conv => whnf
    exact ⟨leA_ex rfl, leH_nil⟩
  · conv => whnf
    have h : n ≠ 0 := by simpa using h
    have hd : dif1 8 n a x = op2 5 (op2 5 (numE n) (op1 8 (n - 1) a)) x := by simp only [dif1]; rw [if_neg (by omega), if_pos trivial, if_neg h]
    have hq : VT (op1 8 (n - 1) a) := VT_op1 (.inr ⟨rfl, by omega, by omega⟩) ha
    rw [hd]
    refine ⟨[], _, f74 n, ?_⟩
    conv => whnf
    rw [wI (x := n - 1) (by omega)]
    refine ⟨[], _, f116 (n := n - 1) (a := a) (by omega), ?_⟩
    conv => whnf
    refine ⟨[], _, f75 (k := 5) (a := numE n) (b := op1 8 (n - 1) a) (by unfold K2; omega) hq, ?_⟩
    conv => whnf
    refine ⟨[], _, f75 (k := 5) (a := op2 5 (numE n) (op1 8 (n - 1) a)) (b := x) (by unfold K2; omega) hx, ?_⟩
    conv => whnf
    (refine ⟨by kernel_rfl, by kernel_rfl, ?_⟩; (conv => whnf))
    exact ⟨leA_ex rfl, leH_nil⟩
theorem f63_3 {a b x y : Ex} {nm : Bytes} (hy : VT y) (ih : Fn 63 [] [.agg (exC a), .str nm] (.agg (exC x)) []) (ih2 : Fn 63 [] [.agg (exC b), .str nm] (.agg (exC y)) []) : Fn 63 [] [exV 3 ⟨0, 0⟩ [] 0 [a, b], .str nm] (.agg (exC (dif2 3 a b x y))) [] := by
  rw [show dif2 3 a b x y = op2 3 x y from rfl]
  refine fnT hT hmx Try.func63 rfl rfl (ex := []) ?_
  conv => whnf
  refine ix0 ?_
  conv => whnf
  refine ⟨[], _, ih, ?_⟩
  conv => whnf
  refine ix1 ?_
  conv => whnf
  refine ⟨[], _, ih2, ?_⟩
  conv => whnf
  refine ⟨[], _, f75 (k := 3) (a := x) (b := y) (by unfold K2; omega) hy, ?_⟩
  conv => whnf
  (refine ⟨by kernel_rfl, by kernel_rfl, ?_⟩; (conv => whnf))
  exact ⟨leA_ex rfl, leH_nil⟩
theorem f63_4 {a b x y : Ex} {nm : Bytes} (hy : VT y) (ih : Fn 63 [] [.agg (exC a), .str nm] (.agg (exC x)) []) (ih2 : Fn 63 [] [.agg (exC b), .str nm] (.agg (exC y)) []) : Fn 63 [] [exV 4 ⟨0, 0⟩ [] 0 [a, b], .str nm] (.agg (exC (dif2 4 a b x y))) [] := by
  rw [show dif2 4 a b x y = op2 4 x y from rfl]
  refine fnT hT hmx Try.func63 rfl rfl (ex := []) ?_
  conv => whnf
  refine ix0 ?_
  conv => whnf
  refine ⟨[], _, ih, ?_⟩
  conv => whnf
  refine ix1 ?_
  conv => whnf
  refine ⟨[], _, ih2, ?_⟩
  conv => whnf
  refine ⟨[], _, f75 (k := 4) (a := x) (b := y) (by unfold K2; omega) hy, ?_⟩
  conv => whnf
  (refine ⟨by kernel_rfl, by kernel_rfl, ?_⟩; (conv => whnf))
  exact ⟨leA_ex rfl, leH_nil⟩
theorem f63_5 {a b x y : Ex} {nm : Bytes} (ha : VT a) (hb : VT b) (hx : VT x) (hy : VT y) (ih : Fn 63 [] [.agg (exC a), .str nm] (.agg (exC x)) []) (ih2 : Fn 63 [] [.agg (exC b), .str nm] (.agg (exC y)) []) : Fn 63 [] [exV 5 ⟨0, 0⟩ [] 0 [a, b], .str nm] (.agg (exC (dif2 5 a b x y))) [] := by
  rw [show dif2 5 a b x y = op2 3 (op2 5 x b) (op2 5 a y) from rfl]
  refine fnT hT hmx Try.func63 rfl rfl (ex := []) ?_
  conv => whnf
  refine ix0 ?_
  conv => whnf
  refine ⟨[], _, ih, ?_⟩
  conv => whnf
  refine ix1 ?_
  conv => whnf
  refine ⟨[], _, f75 (k := 5) (a := x) (b := b) (by unfold K2; omega) hb, ?_⟩
  conv => whnf
  refine ⟨[], _, ih2, ?_⟩
  conv => whnf
  refine ⟨[], _, f75 (k := 5) (a := a) (b := y) (by unfold K2; omega) hy, ?_⟩
  conv => whnf
  refine ⟨[], _, f75 (k := 3) (a := op2 5 x b) (b := op2 5 a y) (by unfold K2; omega) (VT_op2 (by unfold K2; omega) ha hy), ?_⟩
  conv => whnf
  (refine ⟨by kernel_rfl, by kernel_rfl, ?_⟩; (conv => whnf))
  exact ⟨leA_ex rfl, leH_nil⟩
theorem f63_6 {a b x y : Ex} {nm : Bytes} (ha : VT a) (hb : VT b) (hx : VT x) (hy : VT y) (ih : Fn 63 [] [.agg (exC a), .str nm] (.agg (exC x)) []) (ih2 : Fn 63 [] [.agg (exC b), .str nm] (.agg (exC y)) []) : Fn 63 [] [exV 6 ⟨0, 0⟩ [] 0 [a, b], .str nm] (.agg (exC (dif2 6 a b x y))) [] := by
  refine fnT hT hmx Try.func63 rfl rfl (ex := []) ?_
  conv => whnf
  refine ix0 ?_
  conv => whnf
  refine ⟨[], _, ih, ?_⟩
  conv => whnf
  refine ix1 ?_
  conv => whnf
  refine brI (fun h => ?_) (fun h => ?_)
  · conv => whnf
    have h : b.k = 1 := by simpa using h
    rw [show dif2 6 a b x y = op2 6 x b by simp [dif2, h]]
    refine ⟨[], _, f75 (k := 6) (a := x) (b := b) (by unfold K2; omega) hb, ?_⟩
    conv => whnf
    exact ⟨leA_ex rfl, leH_nil⟩
  · conv => whnf
    have h : b.k ≠ 1 := by simpa using h
    rw [show dif2 6 a b x y = op2 6 (op2 4 (op2 5 x b) (op2 5 a y)) (op1 8 2 b) by simp [dif2, h]]
    refine ⟨[], _, f75 (k := 5) (a := x) (b := b) (by unfold K2; omega) hb, ?_⟩
    conv => whnf
    refine ⟨[], _, ih2, ?_⟩
    conv => whnf
    refine ⟨[], _, f75 (k := 5) (a := a) (b := y) (by unfold K2; omega) hy, ?_⟩
    conv => whnf
    refine ⟨[], _, f75 (k := 4) (a := op2 5 x b) (b := op2 5 a y) (by unfold K2; omega) (VT_op2 (by unfold K2; omega) ha hy), ?_⟩
    conv => whnf
    refine ⟨[], _, f116 (n := 2) (a := b) (by omega), ?_⟩
    conv => whnf
    refine ⟨[], _, f75 (k := 6) (a := op2 4 (op2 5 x b) (op2 5 a y)) (b := op1 8 2 b) (by unfold K2; omega) (VT_op1 (.inr ⟨rfl, by omega, by omega⟩) hb), ?_⟩
    conv => whnf
    (refine ⟨by kernel_rfl, by kernel_rfl, ?_⟩; (conv => whnf))
    exact ⟨leA_ex rfl, leH_nil⟩
end Go.Proofs.Ytmcdnbmamoggoaa

/-
  Derivatives: derive.derivative.
-/
namespace Go.Proofs.Ytmcdnbmamoggoaa
open Go Go.Sx
set_option maxRecDepth 100000
set_option maxHeartbeats 8000000
theorem f63 {e : Ex} (nm : Bytes) (h : VT e) : Fn 63 [] [.agg (exC e), .str nm] (.agg (exC (diffE nm e))) [] := by
  induction h with
  | num r hr => rw [diff_rat]; exact f63_num r nm
  | var s hs => rw [diff_var]; exact f63_var s nm
  | un k a hk ha ih =>
    rw [diff_one nm a (K1_ne hk)]
    have hx := VT_diff nm ha
    rcases hk with rfl | rfl | rfl | rfl | rfl | rfl
    · exact f63_7 ha hx ih
    · exact f63_9 ha hx ih
    · exact f63_10 ha hx ih
    · exact f63_11 ha hx ih
    · exact f63_12 ha hx ih
    · exact f63_13 ha hx ih
  | pow n a h1 h2 ha ih =>
    rw [diff_one nm a (by omega)]
    exact f63_8 h1 h2 ha (VT_diff nm ha) ih
  | bin k a b hk ha hb ih1 ih2 =>
    rw [diff_two nm a b (K2_ne hk)]
    have hx := VT_diff nm ha
    have hy := VT_diff nm hb
    rcases hk with rfl | rfl | rfl | rfl
    · exact f63_3 hy ih1 ih2
    · exact f63_4 hy ih1 ih2
    · exact f63_5 ha hb hx hy ih1 ih2
    · exact f63_6 ha hb hx hy ih1 ih2
end Go.Proofs.Ytmcdnbmamoggoaa
