/-
  Trees that are gone through: tree.walk under a callback that is shown every node.
-/
import Derived.Test.YtnijmbnkcmhfpaaGreatDoorQVa
import Derived.Test.YtnijmbnkcmhfpaaGreatDoorQCk
import Derived.Test.YtnijmbnkcmhfpaaGreatDoorQSxY
import Derived.Test.YtnijmbnkcmhfpaaGreatDoorQUI
set_option linter.unusedVariables false
set_option linter.unusedSimpArgs false
namespace Go.Proofs.YtnijmbnkcmhfpaaGreatDoor
open Go Go.Sx
set_option maxRecDepth 100000
set_option maxHeartbeats 8000000
/- The nodes, in the order in which they are shown. -/
mutual
def preE : Ex → List Ex
  | .mk k q s p l => .mk k q s p l :: preL l
def preL : List Ex → List Ex
  | [] => []
  | x :: l => preE x ++ preL l
end
mutual
theorem preE_len : ∀ e : Ex, (preE e).length = sizE e
  | .mk k q s p l => by simp only [preE, sizE, List.length_cons, preL_len l]
theorem preL_len : ∀ l : List Ex, (preL l).length = sizL l
  | [] => rfl
  | x :: l => by simp only [preL, sizL, List.length_append, preE_len x, preL_len l]
end
/-- The callback takes note, and wants more. -/
def Ticks (l : Nat) (J : List Ex → GJ) : Prop := ∀ (n : List Ex) (y : Ex), n.length < 1000 → CbOK Tryz.prog l [(CBID, .gst (J n))] [.agg (exC y)] (.bool true) [(CBID, .gst (J (n ++ [y])))]
abbrev H1 (l : Nat) (J : List Ex → GJ) (n : List Ex) : Hp := [(1000003, .cells [.cb l]), (CBID, .gst (J n))]
abbrev H2 (l : Nat) (J : List Ex → GJ) (n : List Ex) : Hp := [(1000004, .cells [.fn 102 [.ptr 1000003 0]]), (1000003, .cells [.cb l]), (CBID, .gst (J n))]
theorem leH1g {h h' : Hp} (l : Nat) (J : List Ex → GJ) (n : List Ex) : leH h h' (H1 l J n) (H1 l J n) := leH_cons (leB_cells (leL_cons (leA_refl rfl) leL_nil)) (leH_cons (leB_gst rfl) leH_nil)
theorem leH2g {h h' : Hp} (l : Nat) (J : List Ex → GJ) (n : List Ex) : leH h h' (H2 l J n) (H2 l J n) := leH_cons (leB_cells (leL_cons (leA_refl rfl) leL_nil)) (leH_cons (leB_cells (leL_cons (leA_refl rfl) leL_nil)) (leH_cons (leB_gst rfl) leH_nil))
abbrev WkOK (l : Nat) (J : List Ex → GJ) (e : Ex) : Prop := ∀ n : List Ex, n.length + sizE e ≤ 1000 → Fn 61 [(CBID, .gst (J n))] [.agg (exC e), .cb l] (.bool true) [(CBID, .gst (J (n ++ preE e)))]
theorem f153 (l : Nat) (J : List Ex → GJ) (x : Ex) (hx : WkOK l J x) (n : List Ex) (hn : n.length + sizE x ≤ 1000) : Fn 102 (H1 l J n) [.agg (exC x), .ptr 1000003 0] (.bool true) (H1 l J (n ++ preE x)) := by
  refine fnT hT hmx Tryz.func102 rfl rfl (ex := []) ?_
  conv => whnf
  refine ⟨[.gst (J (n ++ preE x))], .bool true, hx n hn, ?_⟩
  conv => whnf
  exact ⟨leA_refl rfl, leH1g l J _⟩
theorem f163 (l : Nat) (J : List Ex → GJ) (x : Ex) (hx : WkOK l J x) (n : List Ex) (hn : n.length + sizE x ≤ 1000) : Fn 153 (H2 l J n) [.agg (exC x), .ptr 1000004 0] (.bool false) (H2 l J (n ++ preE x)) := by
  refine fnT hT hmx Tryz.func153 rfl rfl (ex := []) ?_
  conv => whnf
  refine ⟨[.cells [.cb l], .gst (J (n ++ preE x))], .bool true, f153 l J x hx n hn, ?_⟩
  conv => whnf
  exact ⟨leA_refl rfl, leH2g l J _⟩
theorem preL_take {l : List Ex} {i : Nat} {x : Ex} (hx : l[i]? = some x) : preL (l.take (i + 1)) = preL (l.take i) ++ preE x := by
  rw [List.take_add_one, hx]
  simp only [Option.toList_some]
  generalize l.take i = m
  induction m with
  | nil => simp [preL]
  | cons y m ih => simp only [List.cons_append, preL, ih, List.append_assoc]
theorem sizL_at : ∀ {l : List Ex} {i : Nat} {x : Ex}, l[i]? = some x → sizL (l.take i) + sizE x ≤ sizL l
  | [], _, _, h => by simp at h
  | y :: l, 0, x, h => by
    obtain rfl : y = x := by simpa using h
    simp only [List.take_zero, sizL]; omega
  | y :: l, i + 1, x, h => by
    have := sizL_at (l := l) (i := i) (x := x) (by simpa using h)
    simp only [List.take_succ_cons, sizL]; omega
theorem f114w (l : Nat) (J : List Ex → GJ) (xs : List Ex) (hl : ∀ x ∈ xs, WkOK l J x) (hlen : xs.length < 9223372036854775808) (n : List Ex) (hn : n.length + sizL xs ≤ 1000) :
    Fn 120 (H2 l J n) [.sl .ex xs, .fn 153 [.ptr 1000004 0]] (.int .i64 (-1)) (H2 l J (n ++ preL xs)) := by
  refine fnT hT hmx Tryz.func120 rfl rfl (ex := []) ?_
  conv => whnf
  refine ⟨Nat, fun i => i ≤ xs.length, fun i => [(8, .int .i64 i)], fun i => [(CBID, .gst (J (n ++ preL (xs.take i))))], fun i => xs.length - i, 0, by simp, ?_, fun i hi => ?_⟩
  · ((conv => whnf); refine And.intro ?_ ?_; repeat' first | refine leL_cons ?_ ?_ | exact leA_any | exact leA_refl rfl | exact leL_nil | refine leH_cons ?_ ?_ | exact leH_nil | exact leB_free | exact leB_dead | refine leB_cells ?_ | exact leB_map rfl | exact leB_gst rfl | exact leA_nil rfl | refine leA_agg ?_ | refine leA_tup ?_ | fail)
    exact leB_gst (by simp [preL])
  · (refine ⟨by kernel_rfl, ?_⟩; (conv => whnf))
    refine brI (fun h1 => ?_) (fun h1 => ?_)
    · conv => whnf
      have hi : i < xs.length := by simp only [decide_eq_true_eq] at h1; omega
      refine ⟨⟨by omega, by omega⟩, fun e he => ?_⟩
      have he : xs[(i : Int).toNat]? = some e := he
      have he : xs[i]? = some e := by simpa using he
      conv => whnf
      refine ⟨[.cells [.fn 102 [.ptr 1000003 0]], .cells [.cb l], .gst (J (n ++ preL (xs.take i) ++ preE e))], .bool false, f163 l J e (hl e (List.mem_of_getElem? he)) _ (by rw [List.length_append, preL_len]; have := sizL_at he; omega), ?_⟩
      conv => whnf
      refine ⟨i + 1, by show i + 1 ≤ xs.length; omega, by show xs.length - (i + 1) < xs.length - i; omega, ?_⟩
      ((conv => whnf); refine And.intro ?_ ?_; repeat' first | refine leL_cons ?_ ?_ | exact leA_any | exact leA_refl rfl | exact leL_nil | refine leH_cons ?_ ?_ | exact leH_nil | exact leB_free | exact leB_dead | refine leB_cells ?_ | exact leB_map rfl | exact leB_gst rfl | exact leA_nil rfl | refine leA_agg ?_ | refine leA_tup ?_ | fail)
      · exact leA_int (by rw [wI (by omega)]; omega)
      · exact leB_gst (by rw [preL_take he, List.append_assoc])
    · conv => whnf
      have hi : ¬ i < xs.length := by simp only [decide_eq_false_iff_not] at h1; omega
      rw [List.take_of_length_le (by omega)]
      exact ⟨leA_refl rfl, leH2g l J _⟩
theorem f60w (l : Nat) (J : List Ex → GJ) (xs : List Ex) (hl : ∀ x ∈ xs, WkOK l J x) (hlen : xs.length < 9223372036854775808) (n : List Ex) (hn : n.length + sizL xs ≤ 1000) :
    Fn 74 (H2 l J n) [.sl .ex xs, .fn 153 [.ptr 1000004 0]] (.bool false) (H2 l J (n ++ preL xs)) := by
  refine fnT hT hmx Tryz.func74 rfl rfl (ex := []) ?_
  conv => whnf
  refine ⟨[.cells [.fn 102 [.ptr 1000003 0]], .cells [.cb l], .gst (J (n ++ preL xs))], _, f114w l J xs hl hlen n hn, ?_⟩
  conv => whnf
  exact ⟨leA_refl rfl, leH2g l J _⟩
theorem f152 (l : Nat) (J : List Ex → GJ) (xs : List Ex) (hl : ∀ x ∈ xs, WkOK l J x) (hlen : xs.length < 9223372036854775808) (n : List Ex) (hn : n.length + sizL xs ≤ 1000) :
    Fn 101 (H1 l J n) [.sl .ex xs, .fn 102 [.ptr 1000003 0]] (.bool true) (H1 l J (n ++ preL xs)) := by
  refine fnT hT hmx Tryz.func101 rfl rfl (ex := []) ?_
  conv => whnf
  refine ⟨[.cells [.fn 102 [.ptr 1000003 0]], .cells [.cb l], .gst (J (n ++ preL xs))], .bool false, (f60w l J xs hl hlen n hn).sw [(3, 1000004)] rfl, ?_⟩
  conv => whnf
  exact ⟨leA_refl rfl, leH1g l J _⟩
theorem f127 (l : Nat) (J : List Ex → GJ) (hJ : Ticks l J) : ∀ e : Ex, Sm e → WkOK l J e := by
  refine exInd fun k q s p xs ih hs n hn => ?_
  simp only [Sm] at hs
  simp only [sizE] at hn
  have hl : ∀ x ∈ xs, WkOK l J x := fun x hx => ih x hx (SmL_mem hs.2.2 x hx)
  refine fnT hT hmx Tryz.func61 rfl rfl (ex := []) ?_
  conv => whnf
  refine ⟨[.gst (J (n ++ [Ex.mk k q s p xs]))], .bool true, hJ n (.mk k q s p xs) (by omega), ?_⟩
  conv => whnf
  refine ⟨[.cells [.cb l], .gst (J (n ++ [Ex.mk k q s p xs] ++ preL xs))], .bool true, (f152 l J xs hl hs.2.1 (n ++ [Ex.mk k q s p xs]) (by simp; omega)).sw [(3, 1000003)] rfl, ?_⟩
  conv => whnf
  refine ⟨leA_refl rfl, leH_cons (leB_gst ?_) leH_nil⟩
  rw [show n ++ [Ex.mk k q s p xs] ++ preL xs = n ++ preE (.mk k q s p xs) by simp [preE]]
end Go.Proofs.YtnijmbnkcmhfpaaGreatDoor

/-
  Trees that are cloned; tree.Walk, tree.Size.
-/
namespace Go.Proofs.YtnijmbnkcmhfpaaGreatDoor
open Go Go.Sx
set_option maxRecDepth 100000
set_option maxHeartbeats 8000000
theorem f154 (l : List Ex) (hl : l.length ≤ 1000) : Fn 103 [] [.sl .ex l] (.own 2000000) [(2000000, .buf 26 .ex l)] := by
  refine fnT hT hmx Tryz.func103 rfl rfl (ex := [7]) ?_
  conv => whnf
  refine ⟨fun h => ?_, fun _ => ?_⟩
  · conv => whnf
    subst h
    exact ⟨trivial, leH_cons (leB_new rfl rfl) leH_nil⟩
  · conv => whnf
    refine ⟨by simp; omega, ?_⟩
    conv => whnf
    exact ⟨trivial, leH_cons (leB_buf (by simp)) leH_nil⟩
abbrev ClOK (e : Ex) : Prop := Fn 62 [] [.agg (exC e)] (.agg (exC e)) []
theorem set_same {α : Type} {l : List α} {i : Nat} {x : α} (h : l[i]? = some x) : l.set i x = l := by
  obtain ⟨hi, hx⟩ := List.getElem?_eq_some_iff.1 h
  rw [← hx]; exact List.set_getElem_self hi
theorem f128_node (k : Int) (q : Rt) (s : Bytes) (n : Int) (l : List Ex) (hl : ∀ x ∈ l, ClOK x) (hlen : l.length ≤ 1000) : ClOK (.mk k q s n l) := by
  refine fnT hT hmx Tryz.func62 rfl rfl (ex := []) ?_
  conv => whnf
  refine ⟨[], [.buf 26 .ex l], .own 2000000, f154 l hlen, ?_⟩
  conv => whnf
  refine ⟨Nat, fun i => i ≤ l.length, fun i => [(10, .int .i64 i)], fun _ => [(7, .buf 26 .ex l)], fun i => l.length - i, 0, by simp, ?_, fun i hi => ?_⟩
  · ((conv => whnf); refine And.intro ?_ ?_; repeat' first | refine leL_cons ?_ ?_ | exact leA_any | exact leA_refl rfl | exact leL_nil | refine leH_cons ?_ ?_ | exact leH_nil | exact leB_free | exact leB_dead | refine leB_cells ?_ | exact leB_map rfl | exact leB_gst rfl | exact leA_nil rfl | refine leA_agg ?_ | refine leA_tup ?_ | fail)
    all_goals first | exact leB_buf rfl | exact trivial | fail
  · (refine ⟨by kernel_rfl, ?_⟩; (conv => whnf))
    refine brI (fun h1 => ?_) (fun h1 => ?_)
    · conv => whnf
      have h1 : i < l.length := by simp only [decide_eq_true_eq] at h1; omega
      refine ⟨⟨by omega, by omega⟩, ?_⟩
      conv => whnf
      refine ⟨by simpa using h1, fun x hx => ?_⟩
      have hx : l[(i : Int).toNat]? = some x := hx
      have hx : l[i]? = some x := by simpa using hx
      conv => whnf
      refine ⟨[], _, hl x (List.mem_of_getElem? hx), ?_⟩
      conv => whnf
      refine ⟨⟨by omega, by omega⟩, ?_⟩
      conv => whnf
      rw [Ex.eta2]
      refine ⟨by simpa using h1, ?_⟩
      conv => whnf
      refine ⟨i + 1, by show i + 1 ≤ l.length; omega, by show l.length - (i + 1) < l.length - i; omega, ?_⟩
      ((conv => whnf); refine And.intro ?_ ?_; repeat' first | refine leL_cons ?_ ?_ | exact leA_any | exact leA_refl rfl | exact leL_nil | refine leH_cons ?_ ?_ | exact leH_nil | exact leB_free | exact leB_dead | refine leB_cells ?_ | exact leB_map rfl | exact leB_gst rfl | exact leA_nil rfl | refine leA_agg ?_ | refine leA_tup ?_ | fail)
      · exact leA_int (by rw [wI (by omega)]; omega)
      · exact leB_buf (set_same (by simpa using hx))
    · conv => whnf
      exact ⟨leA_ex rfl, leH_nil⟩
theorem f128 {e : Ex} (h : VT e) : ClOK e := by
  induction h with
  | num r hr => exact f128_node 1 r [] 0 [] (by simp) (by simp)
  | var s hs => exact f128_node 2 ⟨0, 0⟩ s 0 [] (by simp) (by simp)
  | un k a hk ha ih => exact f128_node k ⟨0, 0⟩ [] 0 [a] (by simpa using ih) (by simp)
  | pow n a h1 h2 ha ih => exact f128_node 8 ⟨0, 0⟩ [] n [a] (by simpa using ih) (by simp)
  | bin k a b hk ha hb ih1 ih2 => exact f128_node k ⟨0, 0⟩ [] 0 [a, b] (by simpa using ⟨ih1, ih2⟩) (by simp)
/-- How many nodes are gone through. -/
def szN (e : Ex) : Nat := if okT e then sizE e else 0
def visE (e : Ex) : List Ex := if okT e then preE e else []
theorem visE_len (e : Ex) : (visE e).length = szN e := by
  unfold visE szN
  split
  · exact preE_len e
  · rfl
theorem f126 (l : Nat) (J : List Ex → GJ) (hJ : Ticks l J) (e : Ex) (he : Sm e) : Fn 60 [(CBID, .gst (J [])), (1000001, .cells (exC e))] [.cb l, .ptr 1000001 0] (.tup []) [(CBID, .gst (J (visE e))), (1000001, .cells (exC e))] := by
  refine fnT hT hmx Tryz.func60 rfl rfl (ex := []) ?_
  conv => whnf
  refine cbI [] (okT e) (f17 e he) (fun h1 => ?_) (fun h1 => ?_)
  · conv => whnf
    refine ⟨[], _, f128 (okT_VT h1), ?_⟩
    conv => whnf
    refine ⟨[.gst (J ([] ++ preE e))], .bool true, f127 l J hJ e he [] (by have := ((okT_iff e).1 h1).2.2; simp; omega), ?_⟩
    conv => whnf
    refine ⟨leA_refl rfl, leH_cons (leB_gst ?_) (leH_cons (leB_cells ?_) leH_nil)⟩
    · rw [show visE e = [] ++ preE e by simp [visE, h1]]
    · exact leL_cons (leA_refl rfl) (leL_cons (leA_refl rfl) (leL_cons (leA_refl rfl) (leL_cons (leA_refl rfl) (leL_cons (leA_refl rfl) (leL_cons (leA_refl rfl) leL_nil)))))
  · conv => whnf
    refine ⟨leA_refl rfl, leH_cons (leB_gst ?_) (leH_cons (leB_cells ?_) leH_nil)⟩
    · rw [show visE e = [] by simp [visE, h1]]
    · exact leL_cons (leA_refl rfl) (leL_cons (leA_refl rfl) (leL_cons (leA_refl rfl) (leL_cons (leA_refl rfl) (leL_cons (leA_refl rfl) (leL_cons (leA_refl rfl) leL_nil)))))
theorem f71 (e : Ex) : Fn 30 [] [.agg (exC e)] (.fn 60 [.ptr 2000000 0]) [(2000000, .cells (exC e))] := by
  refine fnT hT hmx Tryz.func30 rfl rfl (ex := [1]) ?_
  conv => whnf
  (refine And.intro ?_ ?_; repeat' first | refine leL_cons ?_ ?_ | exact leA_any | exact leA_refl rfl | exact leL_nil | refine leH_cons ?_ ?_ | exact leH_nil | exact leB_free | exact leB_dead | refine leB_cells ?_ | exact leB_map rfl | exact leB_gst rfl | exact leA_nil rfl | refine leA_agg ?_ | refine leA_tup ?_ | fail)
end Go.Proofs.YtnijmbnkcmhfpaaGreatDoor

/-
  The number of a tree's nodes: tree.Size; small trees.
-/
namespace Go.Proofs.YtnijmbnkcmhfpaaGreatDoor
open Go Go.Sx
set_option maxRecDepth 100000
set_option maxHeartbeats 8000000
theorem wrap_key (x : Int) : IntKind.i64.wrap x = if 9223372036854775808 ≤ x % 18446744073709551616 then x % 18446744073709551616 - 18446744073709551616 else x % 18446744073709551616 := by
  simp only [IntKind.wrap, show IntKind.i64.signed = true from rfl, show IntKind.i64.bits = 64 from rfl, Bool.true_and, decide_eq_true_eq, ge_iff_le]
  rfl
theorem wrap_mod (x y : Int) (h : x % 18446744073709551616 = y % 18446744073709551616) : IntKind.i64.wrap x = IntKind.i64.wrap y := by rw [wrap_key, wrap_key, h]
theorem wrap_succ (n : Nat) : IntKind.i64.wrap (IntKind.i64.wrap (n : Int) + 1) = IntKind.i64.wrap ((n + 1 : Nat) : Int) := by
  refine wrap_mod _ _ ?_
  rw [wrap_key]
  split <;> omega
theorem szN_le (e : Ex) : szN e ≤ 200 := by
  unfold szN
  split
  · rename_i h; exact ((okT_iff e).1 h).2.2
  · omega
end Go.Proofs.YtnijmbnkcmhfpaaGreatDoor
